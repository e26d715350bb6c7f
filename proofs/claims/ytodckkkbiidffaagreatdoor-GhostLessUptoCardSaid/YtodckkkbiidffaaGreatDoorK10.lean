/- Part 10 of 16. -/
import Derived.Test.YtodckkkbiidffaaGreatDoorK09
import Derived.ChangeArms
import Derived.OpenShut
set_option linter.unusedVariables false
set_option linter.unusedSimpArgs false
set_option maxRecDepth 100000
set_option maxHeartbeats 0
namespace Go.AM
inductive Lf where
 |b
 |i (k:IntKind)
 |s
 |sl (ls:List Lf)
inductive iO:List Lf->List Dt->Prop
 |nil:iO [] []
 |b (x:Bool) {ls:List Lf} {ds:List Dt} (h:iO ls ds):iO (.b::ls) (.val (.bool x)::ds)
 |i (k:IntKind) (n:Int) {ls:List Lf} {ds:List Dt} (hw:(Lit.int k n).wf=true) (h:iO ls ds):iO (.i k::ls) (.val (.int k n)::ds)
 |s (x:ByteArray) {ls:List Lf} {ds:List Dt} (h:iO ls ds):iO (.s::ls) (.val (.string x)::ds)
 |sl (es:List Lf) (elems:List (List Dt)) {ls:List Lf} {ds:List Dt} (he:∀e,e∈elems->iO es e) (h:iO ls ds):iO (.sl es::ls) (.sl es.length elems::ds)
theorem iO.len{ls:List Lf}{ds:List Dt}(h:iO ls ds):ds.length=ls.length:=by
 induction h with
 |nil=>rfl
 |b _ _ ih=>simp[ih]
 |i _ _ _ _ ih=>simp[ih]
 |s _ _ ih=>simp[ih]
 |sl _ _ _ _ _ ih=>simp[ih]
theorem iO.append{ls ls':List Lf}{ds ZE:List Dt}(h:iO ls ds)(h':iO ls' ZE):iO (ls++ls') (ds++ZE):=by
 induction h with
 |nil=>exact h'
 |b x _ ih=>exact .b x ih
 |i k n hw _ ih=>exact .i k n hw ih
 |s x _ ih=>exact .s x ih
 |sl es elems he _ _ ih=>exact .sl es elems he ih
mutual
def Dt.size:Dt->Nat
 | .val (.string s)=>s.size+1
 | .val _=>1
 | .sl _ elems=>Dt.dM elems+1
def Dt.fS:List Dt->Nat
 | []=>0
 |d::r=>d.size+Dt.fS r
def Dt.dM:List (List Dt)->Nat
 | []=>0
 |l::r=>Dt.fS l+Dt.dM r
end
theorem Dt.nS:∀(a b:List Dt),Dt.fS (a++b)=Dt.fS a+Dt.fS b
 | [],b=>by simp[Dt.fS]
 |x::r,b=>by simp[Dt.fS,Dt.nS r b];omega
def l4{H:Type}(f:DataW H->Nat):List (DataW H)->Nat
 | []=>0
 |d::r=>f d+l4 f r
structure QH(H:Type) where
 f:DataW H->Nat
 str:∀s,f (.lit (.string s))=s.length+1
 lit:∀l,1<=f (.lit l)
 nil:1<=f .nil
 slice:∀a b,l4 f a+l4 f b+1<=f (.slice a b)
 agg:∀a,l4 f a<=f (.agg a)
def xl(P:Program)(g:TypeId->Option (List Lf)):List Field->Nat->Option (List Lf)
 | [],_=>some []
 |f::r,off=>if f.offset=off then
   match g f.type with
   |some ks=>if P.cellsOf f.type=ks.length then
     match xl P g r (off+ks.length)with
     |some ls=>some (ks++ls)
     |none=>none
    else none
   |none=>none
  else none
def Ut{α:Type}:Nat->List α->List α
 |0,_=>[]
 |n+1,l=>l++Ut n l
def oZ(P:Program):Nat->TypeId->Option (List Lf)
 |0,_=>none
 |d+1,t=>match P.underlying t with
  |some .bool=>some [.b]
  |some (.int k)=>some [.i k]
  |some .string=>some [.s]
  |some (.slice e)=>match oZ P d e with
   |some ls=>if P.cellsOf e=ls.length/\0<ls.length then some [.sl ls]else none
   |none=>none
  |some (.struct fs)=>match xl P (oZ P d) fs.toList 0 with
   |some ls=>if P.cellsOf t=ls.length then some ls else none
   |none=>none
  |some (.array n e)=>match oZ P d e with
   |some ls=>if P.cellsOf e=ls.length/\P.cellsOf t=n*ls.length then some (Ut n ls)else none
   |none=>none
  |_=>none
section
variable {H:Type} {enc:TypeId×Value->H} {P:Program} {w:World} {aq:Nat} {spare:Nat->Bool} {held:Bool}
def ii(w:World)(cs:List Value)(ds:List Dt):Prop:=cs.length=ds.length/\∀(i:Nat)v d,cs[i]? =some v->ds[i]? =some d->de (λb=>b<w.heap.size) w d v
theorem ii.nil:ii w [] []:=⟨rfl,aE⟩
theorem ii.one{v:Value}{d:Dt}(h:de (λb=>b<w.heap.size) w d v):ii w [v] [d]:=by
 refine⟨rfl,λi v' d' h1 h2=>?_⟩
 cases i with
 |zero=>simp at h1 h2;subst h1 h2;exact h
 |succ i=>simp at h1
theorem ii.append{a b:List Value}{x y:List Dt}(h:ii w a x)(h':ii w b y):ii w (a++b) (x++y):=by
 refine⟨by simp[h.1,h'.1],λi v d h1 h2=>?_⟩
 rcases aaf i a.length with aC|d8
 .rw[aac aC]at h1;rw[aac (by rw[<-h.1];exact aC)]at h2
  exact h.2 i v d h1 h2
 .rw[ZZ d8]at h1;rw[ZZ (by rw[<-h.1];exact d8)]at h2
  exact h'.2 _ v d h1 (by rw[h.1];exact h2)
theorem JO{a:Addr}{v:Value}(h:w.cell? a=some v):a.spot=none:=by
 unfold World.cell? at h;split at h
 .split at h
  .cases h
  .rename_i hs;cases Bf:a.spot with
   |none=>rfl
   |some x=>rw[Bf]at hs;simp at hs
 .cases h
theorem FJ(bk:QH H):∀(d:Nat)(t:TypeId)(ls:List Lf),oZ P d t=some ls->∀(fuel:Nat)(cs:List Value)(x:DataW H×List MemPlace),DataW.trod enc P w aq spare held fuel t cs=some x->
  ∃ds,iO ls ds/\ii w cs ds/\Dt.fS ds<=bk.f x.1:=by
 intro d
 induction d with
 |zero=>intro t ls h;simp[oZ]at h
 |succ d ih=>
  intro t ls h fuel cs x hx;simp only[oZ]at h;split at h
  .rename_i ht;cases h;obtain⟨b,rfl,rfl⟩:=DataW.trod_bool ht hx;exact⟨[.val (.bool b)],.b b .nil,ii.one (.val _ rfl),by simpa[Dt.fS,Dt.size]using bk.lit _⟩
  .rename_i k ht;cases h;obtain⟨n,rfl,rfl,hw⟩:=DataW.trod_int ht hx;exact⟨[.val (.int k n)],.i k n hw .nil,ii.one (.val _ rfl),by simpa[Dt.fS,Dt.size]using bk.lit _⟩
  .rename_i ht;cases h;obtain⟨s,rfl,rfl,hs⟩:=DataW.trod_string ht hx;refine⟨[.val (.string s)],.s s .nil,ii.one (.val _ rfl),?_⟩;have:s.data.toList.length=s.size:=by rw[abR];rfl
   simp only[Dt.fS,Dt.size,bk.str,this];omega
  .rename_i e ht;split at h
   .rename_i es oh;split at h
    .rename_i hc;cases h;rcases DataW.trod_slice ht hx with⟨rfl,rfl⟩|⟨a,len,cap,elems,rest,n,rfl,rfl,rfl,hb,oT,PV,M3,FK,_,_⟩
     .exact⟨[.sl es.length []],.sl es [] aE .nil,ii.one (.nil _ none 0 (aaj _)),by simpa[Dt.fS,Dt.size,Dt.dM]using bk.nil⟩
     .have lZ:∀i,i<len->∃Dn x0 PZ,w.cells? aq (a.add (i*es.length)) es.length=some Dn/\elems[i]? =some x0/\iO es PZ/\ii w Dn PZ/\Dt.fS PZ<=bk.f x0.1:=by intro i hi;have h1:=FK i hi;rw[hc.1]at h1;have aC:i<elems.length:=om;rw[vU aC]at h1;obtain⟨Dn,Dp,M4⟩:=N7.1 h1;obtain⟨PZ,f0,r0,s0⟩:=ih e es oh n Dn _ M4;exact⟨Dn,_,PZ,Dp,vU aC,f0,r0,s0⟩
      have mk:∀k,k<=len->∃rd:List (List Dt),rd.length=k/\(∀e,e∈rd->iO es e)/\(∀(i:Nat)PZ,rd[i]? =some PZ->∃Dn,w.cells? aq (a.add (i*es.length)) es.length=some Dn/\ii w Dn PZ)/\
        Dt.dM rd<=l4 bk.f ((elems.take k).map (·.1)):=by
       intro k
       induction k with
       |zero=>intro _;exact⟨[],rfl,aE,aE,by simp[Dt.dM]⟩
       |succ k ihk=>
        intro hk;obtain⟨rd,h1,h2,h3,h4⟩:=ihk om;obtain⟨Dn,x0,PZ,Dp,W0,f0,r0,s0⟩:=lZ k om;refine⟨rd++ [PZ],by simp[h1],λe he=>?_,λi ZE hi=>?_,?_⟩
        .rcases abu.1 he with he|he
         .exact h2 e he
         .simp at he;subst he;exact f0
        .rcases adk i k with aC|rfl|hgt
         .rw[aac om]at hi;exact h3 i ZE hi
         .rw[ZZ om,h1]at hi;simp at hi;subst hi;exact⟨Dn,Dp,r0⟩
         .rw[ZZ om,h1,show i-k=(i-k-1)+1 by omega]at hi
          simp at hi
        .have AU:elems.take (k+1)=elems.take k++ [x0]:=by rw[abG,W0];rfl
         have abe:∀(p q:List (DataW H)),l4 bk.f (p++q)=l4 bk.f p+l4 bk.f q:=by
          intro p
          induction p with
          |nil=>intro q;simp[l4]
          |cons y r ihp=>intro q;simp[l4,ihp q];omega
         have hLL:∀(p q:List (List Dt)),Dt.dM (p++q)=Dt.dM p+Dt.dM q:=by
          intro p
          induction p with
          |nil=>intro q;simp[Dt.dM]
          |cons y r ihp=>intro q;simp[Dt.dM,ihp q];omega
         rw[AU,abm,abe,hLL];simp only[aaL,adL,l4,Dt.dM];omega
      obtain⟨rd,h1,h2,h3,h4⟩:=mk len (Ym _);refine⟨[.sl es.length rd],.sl es rd h2 .nil,ii.one ?_,?_⟩
      .rcases abi len with h0|cI
       .subst h0;rw[aag h1];exact .nil _ _ _ PV
       .have h0:=h3 0 rd[0] (vU om);obtain⟨Dn,Dp,hr0⟩:=h0;obtain⟨Jg,Zz,Bg⟩:=World.cells?_some Dp;have Bf:a.spot=none:=by
         have h5:=Bg 0 hc.2;have hz:((a.add (0*es.length)).add 0)=a:=by simp[Addr.add]
         rw[hz]at h5;have aC:0<Dn.length:=om;rw[vU aC]at h5;exact JO h5
        have hblk:a.block<w.heap.size:=by
         have:=World.cells?_block Dp hc.2;have hz:(a.add (0*es.length))=a:=by simp[Addr.add]
         rw[hz]at this;exact this
        have T6:∀i j,((a.add (i*es.length)).add j)=⟨a.block,a.off+i*es.length+j,none⟩:=by
         intro i j;obtain⟨ab,ao,asp⟩:=a;simp only at Bf;subst Bf;unfold Addr.add;split<;>split<;>simp_all
        rw[<-h1];have ea:a=⟨a.block,a.off,none⟩:=by obtain⟨ab,ao,asp⟩:=a;simp only at Bf;subst Bf;rfl
        rw[ea];have key:∀(i:Nat)fj(j:Nat)d',rd[i]? =some fj->fj[j]? =some d'->∃u,w.cell? ⟨a.block,a.off+i*es.length+j,none⟩=some u/\de (λb=>b<w.heap.size) w d' u:=by
         intro i fj j d' hi hj;obtain⟨cs1,XD,xm⟩:=h3 i fj hi;obtain⟨_,zB,Bh⟩:=World.cells?_some XD;have ez:j<cs1.length:=by rw[xm.1];exact(Km.1 hj).1
         have h6:=Bh j om;rw[T6,vU ez]at h6;exact⟨_,h6,xm.2 j _ d' (vU ez) hj⟩
        refine de.sl es.length rd a.block a.off cap (λi j=>(w.cell? ⟨a.block,a.off+i*es.length+j,none⟩).getD Go.undef) hblk om PV (λfj Mm=>(h2 fj Mm).len)
         (λi fj j d' hi hj=>by obtain⟨u,hu,_⟩:=key i fj j d' hi hj;rw[hu];rfl)
         (λi fj j d' hi hj=>by obtain⟨u,hu,hd⟩:=key i fj j d' hi hj;rw[hu];exact hd)
      .have h5:=bk.slice (elems.map (·.1)) (rest.map (·.1))
       have h6:elems.take len=elems:=abM om;rw[h6]at h4;simp only[Dt.fS,Dt.size];omega
    .cases h
   .cases h
  .rename_i fs ht;obtain⟨xs,n,rfl,rfl,hl,hlen,hf⟩:=DataW.trod_struct ht hx;have go:∀(l:List Field)(k off:Nat)(ls:List Lf),fs.toList.drop k=l->xl P (oZ P d) l off=some ls->cs.length=off+ls.length->∃ds,iO ls ds/\ii w (cs.drop off) ds/\Dt.fS ds<=l4 bk.f ((xs.drop k).map (·.1)):=by
    intro l
    induction l with
    |nil=>
     intro k off ls _ tK iB;simp only[xl]at tK;cases tK;refine⟨[],.nil,?_,by simp[Dt.fS]⟩
     have:cs.drop off=[]:=adD (by simp at iB;omega)
     rw[this];exact ii.nil
    |cons f r ihl=>
     intro k off ls hk tK iB;simp only[xl]at tK;split at tK
     .rename_i FD;split at tK
      .rename_i ks LG;split at tK
       .rename_i Qq;split at tK
        .rename_i rs Us;cases tK;have JA:fs[k]? =some f:=by
          have:(fs.toList.drop k)[0]? =some f:=by rw[hk];rfl
          simpa using this
         have hr:fs.toList.drop (k+1)=r:=by rw[<-List.tail_drop,hk];rfl
         have M5:k<xs.length:=by rw[hlen];exact(aaC.1 JA).1
         have M4:=hf k f JA;rw[FD,Qq,vU M5]at M4;obtain⟨ZF,f1,r1,s1⟩:=ih f.type ks LG n _ _ M4;rw[aa3]at iB;obtain⟨ds2,f2,r2,s2⟩:=ihl (k+1) (off+ks.length) rs hr Us om;refine⟨ZF++ds2,f1.append f2,?_,?_⟩
         .have:cs.drop off=(cs.drop off).take ks.length++cs.drop (off+ks.length):=by rw[<-List.drop_drop,adG]
          rw[this];exact r1.append r2
         .rw[Dt.nS,adt M5];simp only[aaL,l4];omega
        .cases tK
       .cases tK
      .cases tK
     .cases tK
   split at h
   .rename_i ls' tK;split at h
    .rename_i hc;cases h;obtain⟨ds,f1,r1,s1⟩:=go fs.toList 0 0 _ aE tK om;refine⟨ds,f1,by simpa using r1,?_⟩
     have:=bk.agg (xs.map (·.1))
     simp only[adR]at s1;show _<=bk.f (DataW.agg (xs.map (·.1)))
     omega
    .cases h
   .cases h
  .rename_i n e ht;split at h
   .rename_i es oh;split at h
    .rename_i hc;cases h;obtain⟨xs,m,rfl,rfl,hl,hlen,FK⟩:=DataW.trod_array ht hx;have go:∀(k i:Nat),i+k=n->∃ds,iO (Ut k es) ds/\ii w (cs.drop (i*es.length)) ds/\Dt.fS ds<=l4 bk.f ((xs.drop i).map (·.1)):=by
      intro k
      induction k with
      |zero=>
       intro i hi;refine⟨[],.nil,?_,by simp[Dt.fS]⟩
       have:cs.drop (i*es.length)=[]:=adD (by rw[hl,hc.2,show i=n by omega];exact Ym _)
       rw[this];exact ii.nil
      |succ k ihk=>
       intro i hi;have M4:=FK i om;have XE:i<xs.length:=om;rw[hc.1,vU XE]at M4;obtain⟨ZF,f1,r1,s1⟩:=ih e es oh m _ _ M4;obtain⟨ds2,f2,r2,s2⟩:=ihk (i+1) om;refine⟨ZF++ds2,f1.append f2,?_,?_⟩
       .have:cs.drop (i*es.length)=(cs.drop (i*es.length)).take es.length++cs.drop ((i+1)*es.length):=by rw[abf,ab3,<-List.drop_drop,adG]
        rw[this];exact r1.append r2
       .rw[Dt.nS,adt XE];simp only[aaL,l4];omega
     obtain⟨ds,f1,r1,s1⟩:=go n 0 om;refine⟨ds,f1,by simpa using r1,?_⟩
     have:=bk.agg (xs.map (·.1))
     simp only[adR]at s1;show _<=bk.f (DataW.agg (xs.map (·.1)))
     omega
    .cases h
   .cases h
  .cases h
def XF(agg:Bool)(ds:List Dt):CV:=match agg,ds with
 |true,ds=>.rv (.agg (ds.map .ah))
 |false,[d]=>.rv (.one (.ah d))
 |false,_=>.aA
theorem M6{agg:Bool}{v:Value}{ds:List Dt}(hr:ii w v.cells.toList ds)(ha:agg=true->∃vs,v= .agg vs)(hn:agg=false->v.oneCell'=true):ce (JN w) w (XF agg ds) v:=by
 cases agg with
 |true=>
  obtain⟨vs,rfl⟩:=ha rfl;refine⟨vs.toList,aE,by simpa[Value.cells]using hr.1,λi c hi=>?_⟩
  rw[Tm]at hi;cases hd:ds[i]? with
  |none=>rw[hd]at hi;cases hi
  |some d=>
   rw[hd]at hi;cases hi;have aC:i<vs.toList.length:=by have:=(Km.1 hd).1;have h1:=hr.1;simp only[Value.cells]at h1;omega
   exact⟨_,vU aC,hr.2 i _ d (vU aC) hd⟩
 |false=>
  have h1:=hn rfl;have hc:v.cells.toList=[v]:=by cases v<;>first|rfl|simp[Value.oneCell']at h1
  rw[hc]at hr
  match ds,hr with
  | [d],hr=>exact hr.2 0 v d rfl rfl
end
end Go.AM
