/- Part 10 of 16. -/
import Derived.Test.YtodckkkbiidffaaGreatDoorJ09
import Derived.ChangeArms
import Derived.OpenShut
set_option linter.unusedVariables false
set_option linter.unusedSimpArgs false
set_option maxRecDepth 100000
set_option maxHeartbeats 0
namespace Go.AM
inductive Lf where
 |b
 |i (k:IntKind)
 |s
 |sl (ls:List Lf)
inductive iP:List Lf->List Dt->Prop
 |nil:iP [] []
 |b (x:Bool) {ls:List Lf} {ds:List Dt} (h:iP ls ds):iP (.b::ls) (.val (.bool x)::ds)
 |i (k:IntKind) (n:Int) {ls:List Lf} {ds:List Dt} (hw:(Lit.int k n).wf=true) (h:iP ls ds):iP (.i k::ls) (.val (.int k n)::ds)
 |s (x:ByteArray) {ls:List Lf} {ds:List Dt} (h:iP ls ds):iP (.s::ls) (.val (.string x)::ds)
 |sl (es:List Lf) (elems:List (List Dt)) {ls:List Lf} {ds:List Dt} (he:∀e,e∈elems->iP es e) (h:iP ls ds):iP (.sl es::ls) (.sl es.length elems::ds)
theorem iP.len{ls:List Lf}{ds:List Dt}(h:iP ls ds):ds.length=ls.length:=by
 induction h with
 |nil=>rfl
 |b _ _ ih=>simp[ih]
 |i _ _ _ _ ih=>simp[ih]
 |s _ _ ih=>simp[ih]
 |sl _ _ _ _ _ ih=>simp[ih]
theorem iP.append{ls ls':List Lf}{ds ZB:List Dt}(h:iP ls ds)(h':iP ls' ZB):iP (ls++ls') (ds++ZB):=by
 induction h with
 |nil=>exact h'
 |b x _ ih=>exact .b x ih
 |i k n hw _ ih=>exact .i k n hw ih
 |s x _ ih=>exact .s x ih
 |sl es elems he _ _ ih=>exact .sl es elems he ih
mutual
def Dt.size:Dt->Nat
 | .val (.string s)=>s.size+1
 | .val _=>1
 | .sl _ elems=>Dt.dO elems+1
def Dt.fU:List Dt->Nat
 | []=>0
 |d::r=>d.size+Dt.fU r
def Dt.dO:List (List Dt)->Nat
 | []=>0
 |l::r=>Dt.fU l+Dt.dO r
end
theorem Dt.nS:∀(a b:List Dt),Dt.fU (a++b)=Dt.fU a+Dt.fU b
 | [],b=>by simp[Dt.fU]
 |x::r,b=>by simp[Dt.fU,Dt.nS r b];omega
def l8{H:Type}(f:DataW H->Nat):List (DataW H)->Nat
 | []=>0
 |d::r=>f d+l8 f r
structure QQ(H:Type) where
 f:DataW H->Nat
 str:∀s,f (.lit (.string s))=s.length+1
 lit:∀l,1<=f (.lit l)
 nil:1<=f .nil
 slice:∀a b,l8 f a+l8 f b+1<=f (.slice a b)
 agg:∀a,l8 f a<=f (.agg a)
def xe(P:Program)(g:TypeId->Option (List Lf)):List Field->Nat->Option (List Lf)
 | [],_=>some []
 |f::r,off=>if f.offset=off then
   match g f.type with
   |some ks=>if P.cellsOf f.type=ks.length then
     match xe P g r (off+ks.length)with
     |some ls=>some (ks++ls)
     |none=>none
    else none
   |none=>none
  else none
def Uv{α:Type}:Nat->List α->List α
 |0,_=>[]
 |n+1,l=>l++Uv n l
def o6(P:Program):Nat->TypeId->Option (List Lf)
 |0,_=>none
 |d+1,t=>match P.underlying t with
  |some .bool=>some [.b]
  |some (.int k)=>some [.i k]
  |some .string=>some [.s]
  |some (.slice e)=>match o6 P d e with
   |some ls=>if P.cellsOf e=ls.length/\0<ls.length then some [.sl ls]else none
   |none=>none
  |some (.struct fs)=>match xe P (o6 P d) fs.toList 0 with
   |some ls=>if P.cellsOf t=ls.length then some ls else none
   |none=>none
  |some (.array n e)=>match o6 P d e with
   |some ls=>if P.cellsOf e=ls.length/\P.cellsOf t=n*ls.length then some (Uv n ls)else none
   |none=>none
  |_=>none
section
variable {H:Type} {enc:TypeId×Value->H} {P:Program} {w:World} {ar:Nat} {spare:Nat->Bool} {held:Bool}
def ii(w:World)(cs:List Value)(ds:List Dt):Prop:=cs.length=ds.length/\∀(i:Nat)v d,cs[i]? =some v->ds[i]? =some d->dj (λb=>b<w.heap.size) w d v
theorem ii.nil:ii w [] []:=⟨rfl,aC⟩
theorem ii.one{v:Value}{d:Dt}(h:dj (λb=>b<w.heap.size) w d v):ii w [v] [d]:=by
 refine⟨rfl,λi v' d' h1 h2=>?_⟩
 cases i with
 |zero=>simp at h1 h2;subst h1 h2;exact h
 |succ i=>simp at h1
theorem ii.append{a b:List Value}{x y:List Dt}(h:ii w a x)(h':ii w b y):ii w (a++b) (x++y):=by
 refine⟨by simp[h.1,h'.1],λi v d h1 h2=>?_⟩
 rcases aag i a.length with aD|eG
 .rw[aad aD]at h1;rw[aad (by rw[<-h.1];exact aD)]at h2
  exact h.2 i v d h1 h2
 .rw[Y5 eG]at h1;rw[Y5 (by rw[<-h.1];exact eG)]at h2
  exact h'.2 _ v d h1 (by rw[h.1];exact h2)
theorem JJ{a:Addr}{v:Value}(h:w.cell? a=some v):a.spot=none:=by
 unfold World.cell? at h;split at h
 .split at h
  .cases h
  .rename_i hs;cases A4:a.spot with
   |none=>rfl
   |some x=>rw[A4]at hs;simp at hs
 .cases h
theorem FL(bk:QQ H):∀(d:Nat)(t:TypeId)(ls:List Lf),o6 P d t=some ls->∀(fuel:Nat)(cs:List Value)(x:DataW H×List MemPlace),DataW.trod enc P w ar spare held fuel t cs=some x->
  ∃ds,iP ls ds/\ii w cs ds/\Dt.fU ds<=bk.f x.1:=by
 intro d
 induction d with
 |zero=>intro t ls h;simp[o6]at h
 |succ d ih=>
  intro t ls h fuel cs x hx;simp only[o6]at h;split at h
  .rename_i ht;cases h;obtain⟨b,rfl,rfl⟩:=DataW.trod_bool ht hx;exact⟨[.val (.bool b)],.b b .nil,ii.one (.val _ rfl),by simpa[Dt.fU,Dt.size]using bk.lit _⟩
  .rename_i k ht;cases h;obtain⟨n,rfl,rfl,hw⟩:=DataW.trod_int ht hx;exact⟨[.val (.int k n)],.i k n hw .nil,ii.one (.val _ rfl),by simpa[Dt.fU,Dt.size]using bk.lit _⟩
  .rename_i ht;cases h;obtain⟨s,rfl,rfl,hs⟩:=DataW.trod_string ht hx;refine⟨[.val (.string s)],.s s .nil,ii.one (.val _ rfl),?_⟩;have:s.data.toList.length=s.size:=by rw[abY];rfl
   simp only[Dt.fU,Dt.size,bk.str,this];omega
  .rename_i e ht;split at h
   .rename_i es ol;split at h
    .rename_i hc;cases h;rcases DataW.trod_slice ht hx with⟨rfl,rfl⟩|⟨a,len,cap,elems,rest,n,rfl,rfl,rfl,hb,oW,P4,M4,FM,_,_⟩
     .exact⟨[.sl es.length []],.sl es [] aC .nil,ii.one (.nil _ none 0 (aav _)),by simpa[Dt.fU,Dt.size,Dt.dO]using bk.nil⟩
     .have l7:∀i,i<len->∃De x0 P8,w.cells? ar (a.add (i*es.length)) es.length=some De/\elems[i]? =some x0/\iP es P8/\ii w De P8/\Dt.fU P8<=bk.f x0.1:=by intro i hi;have h1:=FM i hi;rw[hc.1]at h1;have aD:i<elems.length:=om;rw[vR aD]at h1;obtain⟨De,Df,M5⟩:=Pu.1 h1;obtain⟨P8,f0,r0,s0⟩:=ih e es ol n De _ M5;exact⟨De,_,P8,Df,vR aD,f0,r0,s0⟩
      have mk:∀k,k<=len->∃ra:List (List Dt),ra.length=k/\(∀e,e∈ra->iP es e)/\(∀(i:Nat)P8,ra[i]? =some P8->∃De,w.cells? ar (a.add (i*es.length)) es.length=some De/\ii w De P8)/\
        Dt.dO ra<=l8 bk.f ((elems.take k).map (·.1)):=by
       intro k
       induction k with
       |zero=>intro _;exact⟨[],rfl,aC,aC,by simp[Dt.dO]⟩
       |succ k ihk=>
        intro hk;obtain⟨ra,h1,h2,h3,h4⟩:=ihk om;obtain⟨De,x0,P8,Df,WY,f0,r0,s0⟩:=l7 k om;refine⟨ra++ [P8],by simp[h1],λe he=>?_,λi ZB hi=>?_,?_⟩
        .rcases abD.1 he with he|he
         .exact h2 e he
         .simp at he;subst he;exact f0
        .rcases adj i k with aD|rfl|hgt
         .rw[aad om]at hi;exact h3 i ZB hi
         .rw[Y5 om,h1]at hi;simp at hi;subst hi;exact⟨De,Df,r0⟩
         .rw[Y5 om,h1,show i-k=(i-k-1)+1 by omega]at hi
          simp at hi
        .have AI:elems.take (k+1)=elems.take k++ [x0]:=by rw[abG,WY];rfl
         have aba:∀(p q:List (DataW H)),l8 bk.f (p++q)=l8 bk.f p+l8 bk.f q:=by
          intro p
          induction p with
          |nil=>intro q;simp[l8]
          |cons y r ihp=>intro q;simp[l8,ihp q];omega
         have hLL:∀(p q:List (List Dt)),Dt.dO (p++q)=Dt.dO p+Dt.dO q:=by
          intro p
          induction p with
          |nil=>intro q;simp[Dt.dO]
          |cons y r ihp=>intro q;simp[Dt.dO,ihp q];omega
         rw[AI,abn,aba,hLL];simp only[aaR,adK,l8,Dt.dO];omega
      obtain⟨ra,h1,h2,h3,h4⟩:=mk len (Yj _);refine⟨[.sl es.length ra],.sl es ra h2 .nil,ii.one ?_,?_⟩
      .rcases abp len with h0|cJ
       .subst h0;rw[aaq h1];exact .nil _ _ _ P4
       .have h0:=h3 0 ra[0] (vR om);obtain⟨De,Df,hr0⟩:=h0;obtain⟨Jb,Zw,A5⟩:=World.cells?_some Df;have A4:a.spot=none:=by
         have h5:=A5 0 hc.2;have hz:((a.add (0*es.length)).add 0)=a:=by simp[Addr.add]
         rw[hz]at h5;have aD:0<De.length:=om;rw[vR aD]at h5;exact JJ h5
        have hblk:a.block<w.heap.size:=by
         have:=World.cells?_block Df hc.2;have hz:(a.add (0*es.length))=a:=by simp[Addr.add]
         rw[hz]at this;exact this
        have T7:∀i j,((a.add (i*es.length)).add j)=⟨a.block,a.off+i*es.length+j,none⟩:=by
         intro i j;obtain⟨ab,ao,asp⟩:=a;simp only at A4;subst A4;unfold Addr.add;split<;>split<;>simp_all
        rw[<-h1];have ea:a=⟨a.block,a.off,none⟩:=by obtain⟨ab,ao,asp⟩:=a;simp only at A4;subst A4;rfl
        rw[ea];have key:∀(i:Nat)fk(j:Nat)d',ra[i]? =some fk->fk[j]? =some d'->∃u,w.cell? ⟨a.block,a.off+i*es.length+j,none⟩=some u/\dj (λb=>b<w.heap.size) w d' u:=by
         intro i fk j d' hi hj;obtain⟨cs1,XB,sr⟩:=h3 i fk hi;obtain⟨_,zs,A6⟩:=World.cells?_some XB;have ez:j<cs1.length:=by rw[sr.1];exact(Ki.1 hj).1
         have h6:=A6 j om;rw[T7,vR ez]at h6;exact⟨_,h6,sr.2 j _ d' (vR ez) hj⟩
        refine dj.sl es.length ra a.block a.off cap (λi j=>(w.cell? ⟨a.block,a.off+i*es.length+j,none⟩).getD Go.undef) hblk om P4 (λfk Mn=>(h2 fk Mn).len)
         (λi fk j d' hi hj=>by obtain⟨u,hu,_⟩:=key i fk j d' hi hj;rw[hu];rfl)
         (λi fk j d' hi hj=>by obtain⟨u,hu,hd⟩:=key i fk j d' hi hj;rw[hu];exact hd)
      .have h5:=bk.slice (elems.map (·.1)) (rest.map (·.1))
       have h6:elems.take len=elems:=abT om;rw[h6]at h4;simp only[Dt.fU,Dt.size];omega
    .cases h
   .cases h
  .rename_i fs ht;obtain⟨xs,n,rfl,rfl,hl,hlen,hf⟩:=DataW.trod_struct ht hx;have go:∀(l:List Field)(k off:Nat)(ls:List Lf),fs.toList.drop k=l->xe P (o6 P d) l off=some ls->cs.length=off+ls.length->∃ds,iP ls ds/\ii w (cs.drop off) ds/\Dt.fU ds<=l8 bk.f ((xs.drop k).map (·.1)):=by
    intro l
    induction l with
    |nil=>
     intro k off ls _ tJ iB;simp only[xe]at tJ;cases tJ;refine⟨[],.nil,?_,by simp[Dt.fU]⟩
     have:cs.drop off=[]:=adB (by simp at iB;omega)
     rw[this];exact ii.nil
    |cons f r ihl=>
     intro k off ls hk tJ iB;simp only[xe]at tJ;split at tJ
     .rename_i FF;split at tJ
      .rename_i ks ES;split at tJ
       .rename_i Qz;split at tJ
        .rename_i rs Uu;cases tJ;have Jt:fs[k]? =some f:=by
          have:(fs.toList.drop k)[0]? =some f:=by rw[hk];rfl
          simpa using this
         have hr:fs.toList.drop (k+1)=r:=by rw[<-List.tail_drop,hk];rfl
         have M6:k<xs.length:=by rw[hlen];exact(aaF.1 Jt).1
         have M5:=hf k f Jt;rw[FF,Qz,vR M6]at M5;obtain⟨ZC,f1,r1,s1⟩:=ih f.type ks ES n _ _ M5;rw[aa5]at iB;obtain⟨ds2,f2,r2,s2⟩:=ihl (k+1) (off+ks.length) rs hr Uu om;refine⟨ZC++ds2,f1.append f2,?_,?_⟩
         .have:cs.drop off=(cs.drop off).take ks.length++cs.drop (off+ks.length):=by rw[<-List.drop_drop,adk]
          rw[this];exact r1.append r2
         .rw[Dt.nS,adt M6];simp only[aaR,l8];omega
        .cases tJ
       .cases tJ
      .cases tJ
     .cases tJ
   split at h
   .rename_i ls' tJ;split at h
    .rename_i hc;cases h;obtain⟨ds,f1,r1,s1⟩:=go fs.toList 0 0 _ aC tJ om;refine⟨ds,f1,by simpa using r1,?_⟩
     have:=bk.agg (xs.map (·.1))
     simp only[adR]at s1;show _<=bk.f (DataW.agg (xs.map (·.1)))
     omega
    .cases h
   .cases h
  .rename_i n e ht;split at h
   .rename_i es ol;split at h
    .rename_i hc;cases h;obtain⟨xs,m,rfl,rfl,hl,hlen,FM⟩:=DataW.trod_array ht hx;have go:∀(k i:Nat),i+k=n->∃ds,iP (Uv k es) ds/\ii w (cs.drop (i*es.length)) ds/\Dt.fU ds<=l8 bk.f ((xs.drop i).map (·.1)):=by
      intro k
      induction k with
      |zero=>
       intro i hi;refine⟨[],.nil,?_,by simp[Dt.fU]⟩
       have:cs.drop (i*es.length)=[]:=adB (by rw[hl,hc.2,show i=n by omega];exact Yj _)
       rw[this];exact ii.nil
      |succ k ihk=>
       intro i hi;have M5:=FM i om;have XC:i<xs.length:=om;rw[hc.1,vR XC]at M5;obtain⟨ZC,f1,r1,s1⟩:=ih e es ol m _ _ M5;obtain⟨ds2,f2,r2,s2⟩:=ihk (i+1) om;refine⟨ZC++ds2,f1.append f2,?_,?_⟩
       .have:cs.drop (i*es.length)=(cs.drop (i*es.length)).take es.length++cs.drop ((i+1)*es.length):=by rw[abk,ab4,<-List.drop_drop,adk]
        rw[this];exact r1.append r2
       .rw[Dt.nS,adt XC];simp only[aaR,l8];omega
     obtain⟨ds,f1,r1,s1⟩:=go n 0 om;refine⟨ds,f1,by simpa using r1,?_⟩
     have:=bk.agg (xs.map (·.1))
     simp only[adR]at s1;show _<=bk.f (DataW.agg (xs.map (·.1)))
     omega
    .cases h
   .cases h
  .cases h
def XD(agg:Bool)(ds:List Dt):CV:=match agg,ds with
 |true,ds=>.rv (.agg (ds.map .ah))
 |false,[d]=>.rv (.one (.ah d))
 |false,_=>.aH
theorem M7{agg:Bool}{v:Value}{ds:List Dt}(hr:ii w v.cells.toList ds)(ha:agg=true->∃vs,v= .agg vs)(hn:agg=false->v.oneCell'=true):cf (JI w) w (XD agg ds) v:=by
 cases agg with
 |true=>
  obtain⟨vs,rfl⟩:=ha rfl;refine⟨vs.toList,aC,by simpa[Value.cells]using hr.1,λi c hi=>?_⟩
  rw[Tr]at hi;cases hd:ds[i]? with
  |none=>rw[hd]at hi;cases hi
  |some d=>
   rw[hd]at hi;cases hi;have aD:i<vs.toList.length:=by have:=(Ki.1 hd).1;have h1:=hr.1;simp only[Value.cells]at h1;omega
   exact⟨_,vR aD,hr.2 i _ d (vR aD) hd⟩
 |false=>
  have h1:=hn rfl;have hc:v.cells.toList=[v]:=by cases v<;>first|rfl|simp[Value.oneCell']at h1
  rw[hc]at hr
  match ds,hr with
  | [d],hr=>exact hr.2 0 v d rfl rfl
end
end Go.AM
