/- Part 10 of 16. -/
import Derived.Test.YtodckkkbiidffaaGreatDoorH09
import Derived.ChangeArms
import Derived.OpenShut
set_option linter.unusedVariables false
set_option linter.unusedSimpArgs false
set_option maxRecDepth 100000
set_option maxHeartbeats 0
namespace Go.AM
inductive Lf where
 |b
 |i (k:IntKind)
 |s
 |sl (ls:List Lf)
inductive iD:List Lf->List Dt->Prop
 |nil:iD [] []
 |b (x:Bool) {ls:List Lf} {ds:List Dt} (h:iD ls ds):iD (.b::ls) (.val (.bool x)::ds)
 |i (k:IntKind) (n:Int) {ls:List Lf} {ds:List Dt} (hw:(Lit.int k n).wf=true) (h:iD ls ds):iD (.i k::ls) (.val (.int k n)::ds)
 |s (x:ByteArray) {ls:List Lf} {ds:List Dt} (h:iD ls ds):iD (.s::ls) (.val (.string x)::ds)
 |sl (es:List Lf) (elems:List (List Dt)) {ls:List Lf} {ds:List Dt} (he:∀e,e∈elems->iD es e) (h:iD ls ds):iD (.sl es::ls) (.sl es.length elems::ds)
theorem iD.len{ls:List Lf}{ds:List Dt}(h:iD ls ds):ds.length=ls.length:=by
 induction h with
 |nil=>rfl
 |b _ _ ih=>simp[ih]
 |i _ _ _ _ ih=>simp[ih]
 |s _ _ ih=>simp[ih]
 |sl _ _ _ _ _ ih=>simp[ih]
theorem iD.append{ls Z0:List Lf}{ds Ys:List Dt}(h:iD ls ds)(h':iD Z0 Ys):iD (ls++Z0) (ds++Ys):=by
 induction h with
 |nil=>exact h'
 |b x _ ih=>exact .b x ih
 |i k n hw _ ih=>exact .i k n hw ih
 |s x _ ih=>exact .s x ih
 |sl es elems he _ _ ih=>exact .sl es elems he ih
mutual
def Dt.size:Dt->Nat
 | .val (.string s)=>s.size+1
 | .val _=>1
 | .sl _ elems=>Dt.dH elems+1
def Dt.fF:List Dt->Nat
 | []=>0
 |d::r=>d.size+Dt.fF r
def Dt.dH:List (List Dt)->Nat
 | []=>0
 |l::r=>Dt.fF l+Dt.dH r
end
theorem Dt.nH:∀(a b:List Dt),Dt.fF (a++b)=Dt.fF a+Dt.fF b
 | [],b=>by simp[Dt.fF]
 |x::r,b=>by simp[Dt.fF,Dt.nH r b];omega
def lL{H:Type}(f:DataW H->Nat):List (DataW H)->Nat
 | []=>0
 |d::r=>f d+lL f r
structure PZ(H:Type) where
 f:DataW H->Nat
 str:∀s,f (.lit (.string s))=s.length+1
 lit:∀l,1<=f (.lit l)
 nil:1<=f .nil
 slice:∀a b,lL f a+lL f b+1<=f (.slice a b)
 agg:∀a,lL f a<=f (.agg a)
def wF(P:Program)(g:TypeId->Option (List Lf)):List Field->Nat->Option (List Lf)
 | [],_=>some []
 |f::r,off=>if f.offset=off then
   match g f.type with
   |some ks=>if P.cellsOf f.type=ks.length then
     match wF P g r (off+ks.length)with
     |some ls=>some (ks++ls)
     |none=>none
    else none
   |none=>none
  else none
def To{α:Type}:Nat->List α->List α
 |0,_=>[]
 |n+1,l=>l++To n l
def oO(P:Program):Nat->TypeId->Option (List Lf)
 |0,_=>none
 |d+1,t=>match P.underlying t with
  |some .bool=>some [.b]
  |some (.int k)=>some [.i k]
  |some .string=>some [.s]
  |some (.slice e)=>match oO P d e with
   |some ls=>if P.cellsOf e=ls.length/\0<ls.length then some [.sl ls]else none
   |none=>none
  |some (.struct fs)=>match wF P (oO P d) fs.toList 0 with
   |some ls=>if P.cellsOf t=ls.length then some ls else none
   |none=>none
  |some (.array n e)=>match oO P d e with
   |some ls=>if P.cellsOf e=ls.length/\P.cellsOf t=n*ls.length then some (To n ls)else none
   |none=>none
  |_=>none
section
variable {H:Type} {enc:TypeId×Value->H} {P:Program} {w:World} {ar:Nat} {spare:Nat->Bool} {held:Bool}
def gU(w:World)(cs:List Value)(ds:List Dt):Prop:=cs.length=ds.length/\∀(i:Nat)v d,cs[i]? =some v->ds[i]? =some d->de (λb=>b<w.heap.size) w d v
theorem gU.nil:gU w [] []:=⟨rfl,aC⟩
theorem gU.one{v:Value}{d:Dt}(h:de (λb=>b<w.heap.size) w d v):gU w [v] [d]:=by
 refine⟨rfl,λi v' d' h1 h2=>?_⟩
 cases i with
 |zero=>simp at h1 h2;subst h1 h2;exact h
 |succ i=>simp at h1
theorem gU.append{a b:List Value}{x y:List Dt}(h:gU w a x)(h':gU w b y):gU w (a++b) (x++y):=by
 refine⟨by simp[h.1,h'.1],λi v d h1 h2=>?_⟩
 rcases aaf i a.length with aD|ek
 .rw[YN aD]at h1;rw[YN (by rw[<-h.1];exact aD)]at h2
  exact h.2 i v d h1 h2
 .rw[Xi ek]at h1;rw[Xi (by rw[<-h.1];exact ek)]at h2
  exact h'.2 _ v d h1 (by rw[h.1];exact h2)
theorem Ja{a:Addr}{v:Value}(h:w.cell? a=some v):a.spot=none:=by
 unfold World.cell? at h;split at h
 .split at h
  .cases h
  .rename_i hs;cases wG:a.spot with
   |none=>rfl
   |some x=>rw[wG]at hs;simp at hs
 .cases h
theorem E7(bk:PZ H):∀(d:Nat)(t:TypeId)(ls:List Lf),oO P d t=some ls->∀(fuel:Nat)(cs:List Value)(x:DataW H×List MemPlace),DataW.trod enc P w ar spare held fuel t cs=some x->
  ∃ds,iD ls ds/\gU w cs ds/\Dt.fF ds<=bk.f x.1:=by
 intro d
 induction d with
 |zero=>intro t ls h;simp[oO]at h
 |succ d ih=>
  intro t ls h fuel cs x hx;simp only[oO]at h;split at h
  .rename_i ht;cases h;obtain⟨b,rfl,rfl⟩:=DataW.trod_bool ht hx;exact⟨[.val (.bool b)],.b b .nil,gU.one (.val _ rfl),by simpa[Dt.fF,Dt.size]using bk.lit _⟩
  .rename_i k ht;cases h;obtain⟨n,rfl,rfl,hw⟩:=DataW.trod_int ht hx;exact⟨[.val (.int k n)],.i k n hw .nil,gU.one (.val _ rfl),by simpa[Dt.fF,Dt.size]using bk.lit _⟩
  .rename_i ht;cases h;obtain⟨s,rfl,rfl,hs⟩:=DataW.trod_string ht hx;refine⟨[.val (.string s)],.s s .nil,gU.one (.val _ rfl),?_⟩;have:s.data.toList.length=s.size:=by rw[ab6];rfl
   simp only[Dt.fF,Dt.size,bk.str,this];omega
  .rename_i e ht;split at h
   .rename_i es nV;split at h
    .rename_i hc;cases h;rcases DataW.trod_slice ht hx with⟨rfl,rfl⟩|⟨a,len,cap,elems,rest,n,rfl,rfl,rfl,hb,oI,O9,Mn,E8,_,_⟩
     .exact⟨[.sl es.length []],.sl es [] aC .nil,gU.one (.nil _ none 0 (aan _)),by simpa[Dt.fF,Dt.size,Dt.dH]using bk.nil⟩
     .have lK:∀i,i<len->∃CL x0 Pd,w.cells? ar (a.add (i*es.length)) es.length=some CL/\elems[i]? =some x0/\iD es Pd/\gU w CL Pd/\Dt.fF Pd<=bk.f x0.1:=by intro i hi;have h1:=E8 i hi;rw[hc.1]at h1;have aD:i<elems.length:=om;rw[vl aD]at h1;obtain⟨CL,CM,Mo⟩:=OJ.1 h1;obtain⟨Pd,f0,r0,s0⟩:=ih e es nV n CL _ Mo;exact⟨CL,_,Pd,CM,vl aD,f0,r0,s0⟩
      have mk:∀k,k<=len->∃qJ:List (List Dt),qJ.length=k/\(∀e,e∈qJ->iD es e)/\(∀(i:Nat)Pd,qJ[i]? =some Pd->∃CL,w.cells? ar (a.add (i*es.length)) es.length=some CL/\gU w CL Pd)/\
        Dt.dH qJ<=lL bk.f ((elems.take k).map (·.1)):=by
       intro k
       induction k with
       |zero=>intro _;exact⟨[],rfl,aC,aC,by simp[Dt.dH]⟩
       |succ k Z1=>
        intro hk;obtain⟨qJ,h1,h2,h3,h4⟩:=Z1 om;obtain⟨CL,x0,Pd,CM,VR,f0,r0,s0⟩:=lK k om;refine⟨qJ++ [Pd],by simp[h1],λe he=>?_,λi Ys hi=>?_,?_⟩
        .rcases abL.1 he with he|he
         .exact h2 e he
         .simp at he;subst he;exact f0
        .rcases acY i k with aD|rfl|hgt
         .rw[YN om]at hi;exact h3 i Ys hi
         .rw[Xi om,h1]at hi;simp at hi;subst hi;exact⟨CL,CM,r0⟩
         .rw[Xi om,h1,show i-k=(i-k-1)+1 by omega]at hi
          simp at hi
        .have Aq:elems.take (k+1)=elems.take k++ [x0]:=by rw[abQ,VR];rfl
         have Z2:∀(p q:List (DataW H)),lL bk.f (p++q)=lL bk.f p+lL bk.f q:=by
          intro p
          induction p with
          |nil=>intro q;simp[lL]
          |cons y r Z3=>intro q;simp[lL,Z3 q];omega
         have hLL:∀(p q:List (List Dt)),Dt.dH (p++q)=Dt.dH p+Dt.dH q:=by
          intro p
          induction p with
          |nil=>intro q;simp[Dt.dH]
          |cons y r Z3=>intro q;simp[Dt.dH,Z3 q];omega
         rw[Aq,aby,Z2,hLL];simp only[aaJ,ac7,lL,Dt.dH];omega
      obtain⟨qJ,h1,h2,h3,h4⟩:=mk len (T5 _);refine⟨[.sl es.length qJ],.sl es qJ h2 .nil,gU.one ?_,?_⟩
      .rcases abz len with h0|cH
       .subst h0;rw[aai h1];exact .nil _ _ _ O9
       .have h0:=h3 0 qJ[0] (vl om);obtain⟨CL,CM,hr0⟩:=h0;obtain⟨IC,Yn,AL⟩:=World.cells?_some CM;have wG:a.spot=none:=by
         have h5:=AL 0 hc.2;have hz:((a.add (0*es.length)).add 0)=a:=by simp[Addr.add]
         rw[hz]at h5;have aD:0<CL.length:=om;rw[vl aD]at h5;exact Ja h5
        have hblk:a.block<w.heap.size:=by
         have:=World.cells?_block CM hc.2;have hz:(a.add (0*es.length))=a:=by simp[Addr.add]
         rw[hz]at this;exact this
        have SX:∀i j,((a.add (i*es.length)).add j)=⟨a.block,a.off+i*es.length+j,none⟩:=by
         intro i j;obtain⟨ab,ao,asp⟩:=a;simp only at wG;subst wG;unfold Addr.add;split<;>split<;>simp_all
        rw[<-h1];have ea:a=⟨a.block,a.off,none⟩:=by obtain⟨ab,ao,asp⟩:=a;simp only at wG;subst wG;rfl
        rw[ea];have key:∀(i:Nat)e7(j:Nat)d',qJ[i]? =some e7->e7[j]? =some d'->∃u,w.cell? ⟨a.block,a.off+i*es.length+j,none⟩=some u/\de (λb=>b<w.heap.size) w d' u:=by
         intro i e7 j d' hi hj;obtain⟨cs1,Wr,rS⟩:=h3 i e7 hi;obtain⟨_,yW,AN⟩:=World.cells?_some Wr;have d9:j<cs1.length:=by rw[rS.1];exact(JJ.1 hj).1
         have h6:=AN j om;rw[SX,vl d9]at h6;exact⟨_,h6,rS.2 j _ d' (vl d9) hj⟩
        refine de.sl es.length qJ a.block a.off cap (λi j=>(w.cell? ⟨a.block,a.off+i*es.length+j,none⟩).getD Go.undef) hblk om O9 (λe7 LB=>(h2 e7 LB).len)
         (λi e7 j d' hi hj=>by obtain⟨u,hu,_⟩:=key i e7 j d' hi hj;rw[hu];rfl)
         (λi e7 j d' hi hj=>by obtain⟨u,hu,hd⟩:=key i e7 j d' hi hj;rw[hu];exact hd)
      .have h5:=bk.slice (elems.map (·.1)) (rest.map (·.1))
       have h6:elems.take len=elems:=ab1 om;rw[h6]at h4;simp only[Dt.fF,Dt.size];omega
    .cases h
   .cases h
  .rename_i fs ht;obtain⟨xs,n,rfl,rfl,hl,hlen,hf⟩:=DataW.trod_struct ht hx;have go:∀(l:List Field)(k off:Nat)(ls:List Lf),fs.toList.drop k=l->wF P (oO P d) l off=some ls->cs.length=off+ls.length->∃ds,iD ls ds/\gU w (cs.drop off) ds/\Dt.fF ds<=lL bk.f ((xs.drop k).map (·.1)):=by
    intro l
    induction l with
    |nil=>
     intro k off ls _ tk im;simp only[wF]at tk;cases tk;refine⟨[],.nil,?_,by simp[Dt.fF]⟩
     have:cs.drop off=[]:=ac0 (by simp at im;omega)
     rw[this];exact gU.nil
    |cons f r ihl=>
     intro k off ls hk tk im;simp only[wF]at tk;split at tk
     .rename_i EZ;split at tk
      .rename_i ks Hh;split at tk
       .rename_i PI;split at tk
        .rename_i rs Tn;cases tk;have IW:fs[k]? =some f:=by
          have:(fs.toList.drop k)[0]? =some f:=by rw[hk];rfl
          simpa using this
         have hr:fs.toList.drop (k+1)=r:=by rw[<-List.tail_drop,hk];rfl
         have Mp:k<xs.length:=by rw[hlen];exact(aaw.1 IW).1
         have Mo:=hf k f IW;rw[EZ,PI,vl Mp]at Mo;obtain⟨Yt,f1,r1,s1⟩:=ih f.type ks Hh n _ _ Mo;rw[aaL]at im;obtain⟨Z4,f2,r2,s2⟩:=ihl (k+1) (off+ks.length) rs hr Tn om;refine⟨Yt++Z4,f1.append f2,?_,?_⟩
         .have:cs.drop off=(cs.drop off).take ks.length++cs.drop (off+ks.length):=by rw[<-List.drop_drop,acH]
          rw[this];exact r1.append r2
         .rw[Dt.nH,acQ Mp];simp only[aaJ,lL];omega
        .cases tk
       .cases tk
      .cases tk
     .cases tk
   split at h
   .rename_i Z0 tk;split at h
    .rename_i hc;cases h;obtain⟨ds,f1,r1,s1⟩:=go fs.toList 0 0 _ aC tk om;refine⟨ds,f1,by simpa using r1,?_⟩
     have:=bk.agg (xs.map (·.1))
     simp only[acU]at s1;show _<=bk.f (DataW.agg (xs.map (·.1)))
     omega
    .cases h
   .cases h
  .rename_i n e ht;split at h
   .rename_i es nV;split at h
    .rename_i hc;cases h;obtain⟨xs,m,rfl,rfl,hl,hlen,E8⟩:=DataW.trod_array ht hx;have go:∀(k i:Nat),i+k=n->∃ds,iD (To k es) ds/\gU w (cs.drop (i*es.length)) ds/\Dt.fF ds<=lL bk.f ((xs.drop i).map (·.1)):=by
      intro k
      induction k with
      |zero=>
       intro i hi;refine⟨[],.nil,?_,by simp[Dt.fF]⟩
       have:cs.drop (i*es.length)=[]:=ac0 (by rw[hl,hc.2,show i=n by omega];exact T5 _)
       rw[this];exact gU.nil
      |succ k Z1=>
       intro i hi;have Mo:=E8 i om;have Ws:i<xs.length:=om;rw[hc.1,vl Ws]at Mo;obtain⟨Yt,f1,r1,s1⟩:=ih e es nV m _ _ Mo;obtain⟨Z4,f2,r2,s2⟩:=Z1 (i+1) om;refine⟨Yt++Z4,f1.append f2,?_,?_⟩
       .have:cs.drop (i*es.length)=(cs.drop (i*es.length)).take es.length++cs.drop ((i+1)*es.length):=by rw[aaZ,ace,<-List.drop_drop,acH]
        rw[this];exact r1.append r2
       .rw[Dt.nH,acQ Ws];simp only[aaJ,lL];omega
     obtain⟨ds,f1,r1,s1⟩:=go n 0 om;refine⟨ds,f1,by simpa using r1,?_⟩
     have:=bk.agg (xs.map (·.1))
     simp only[acU]at s1;show _<=bk.f (DataW.agg (xs.map (·.1)))
     omega
    .cases h
   .cases h
  .cases h
def Wu(agg:Bool)(ds:List Dt):CV:=match agg,ds with
 |true,ds=>.rv (.agg (ds.map .ah))
 |false,[d]=>.rv (.one (.ah d))
 |false,_=>.aF
theorem Mq{agg:Bool}{v:Value}{ds:List Dt}(hr:gU w v.cells.toList ds)(ha:agg=true->∃vs,v= .agg vs)(hn:agg=false->v.oneCell'=true):bZ (I9 w) w (Wu agg ds) v:=by
 cases agg with
 |true=>
  obtain⟨vs,rfl⟩:=ha rfl;refine⟨vs.toList,aC,by simpa[Value.cells]using hr.1,λi c hi=>?_⟩
  rw[Sf]at hi;cases hd:ds[i]? with
  |none=>rw[hd]at hi;cases hi
  |some d=>
   rw[hd]at hi;cases hi;have aD:i<vs.toList.length:=by have:=(JJ.1 hd).1;have h1:=hr.1;simp only[Value.cells]at h1;omega
   exact⟨_,vl aD,hr.2 i _ d (vl aD) hd⟩
 |false=>
  have h1:=hn rfl;have hc:v.cells.toList=[v]:=by cases v<;>first|rfl|simp[Value.oneCell']at h1
  rw[hc]at hr
  match ds,hr with
  | [d],hr=>exact hr.2 0 v d rfl rfl
end
end Go.AM
