/- Part 10 of 23. -/
import Derived.Test.YtllkfpggoigbaaaGreatDoorW09
import Derived.ChangeArms
import Derived.OpenShut
set_option linter.unusedVariables false
set_option linter.unusedSimpArgs false
set_option maxRecDepth 100000
set_option maxHeartbeats 0
namespace Go.AM
inductive Lf where
 |b
 |i (k:IntKind)
 |s
 |sl (ls:List Lf)
inductive ke:List Lf->List Dt->Prop
 |nil:ke [] []
 |b (x:Bool) {ls:List Lf} {ds:List Dt} (h:ke ls ds):ke (.b::ls) (.val (.bool x)::ds)
 |i (k:IntKind) (n:Int) {ls:List Lf} {ds:List Dt} (hw:(Lit.int k n).wf=true) (h:ke ls ds):ke (.i k::ls) (.val (.int k n)::ds)
 |s (x:ByteArray) {ls:List Lf} {ds:List Dt} (h:ke ls ds):ke (.s::ls) (.val (.string x)::ds)
 |sl (es:List Lf) (elems:List (List Dt)) {ls:List Lf} {ds:List Dt} (he:∀e,e∈elems->ke es e) (h:ke ls ds):ke (.sl es::ls) (.sl es.length elems::ds)
theorem ke.len{ls:List Lf}{ds:List Dt}(h:ke ls ds):ds.length=ls.length:=by
 induction h with
 |nil=>rfl
 |b _ _ ih=>simp[ih]
 |i _ _ _ _ ih=>simp[ih]
 |s _ _ ih=>simp[ih]
 |sl _ _ _ _ _ ih=>simp[ih]
theorem ke.append{ls ls':List Lf}{ds ds':List Dt}(h:ke ls ds)(h':ke ls' ds'):ke (ls++ls') (ds++ds'):=by
 induction h with
 |nil=>exact h'
 |b x _ ih=>exact .b x ih
 |i k n hw _ ih=>exact .i k n hw ih
 |s x _ ih=>exact .s x ih
 |sl es elems he _ _ ih=>exact .sl es elems he ih
mutual
def Dt.size:Dt->Nat
 | .val (.string s)=>s.size+1
 | .val _=>1
 | .sl _ elems=>Dt.ep elems+1
def Dt.gW:List Dt->Nat
 | []=>0
 |d::r=>d.size+Dt.gW r
def Dt.ep:List (List Dt)->Nat
 | []=>0
 |l::r=>Dt.gW l+Dt.ep r
end
theorem Dt.o5:∀(a b:List Dt),Dt.gW (a++b)=Dt.gW a+Dt.gW b
 | [],b=>by simp[Dt.gW]
 |x::r,b=>by simp[Dt.gW,Dt.o5 r b];omega
def m7{H:Type}(f:DataW H->Nat):List (DataW H)->Nat
 | []=>0
 |d::r=>f d+m7 f r
structure S3(H:Type) where
 f:DataW H->Nat
 str:∀s,f (.lit (.string s))=s.length+1
 lit:∀l,1<=f (.lit l)
 nil:1<=f .nil
 slice:∀a b,m7 f a+m7 f b+1<=f (.slice a b)
 agg:∀a,m7 f a<=f (.agg a)
def yz(P:Program)(g:TypeId->Option (List Lf)):List Field->Nat->Option (List Lf)
 | [],_=>some []
 |f::r,off=>if f.offset=off then
   match g f.type with
   |some ks=>if P.cellsOf f.type=ks.length then
     match yz P g r (off+ks.length)with
     |some ls=>some (ks++ls)
     |none=>none
    else none
   |none=>none
  else none
def Xf{α:Type}:Nat->List α->List α
 |0,_=>[]
 |n+1,l=>l++Xf n l
def qD(P:Program):Nat->TypeId->Option (List Lf)
 |0,_=>none
 |d+1,t=>match P.underlying t with
  |some .bool=>some [.b]
  |some (.int k)=>some [.i k]
  |some .string=>some [.s]
  |some (.slice e)=>match qD P d e with
   |some ls=>if P.cellsOf e=ls.length/\0<ls.length then some [.sl ls]else none
   |none=>none
  |some (.struct fs)=>match yz P (qD P d) fs.toList 0 with
   |some ls=>if P.cellsOf t=ls.length then some ls else none
   |none=>none
  |some (.array n e)=>match qD P d e with
   |some ls=>if P.cellsOf e=ls.length/\P.cellsOf t=n*ls.length then some (Xf n ls)else none
   |none=>none
  |_=>none
section
variable {H:Type} {enc:TypeId×Value->H} {P:Program} {w:World} {aB:Nat} {spare:Nat->Bool} {held:Bool}
def i3(w:World)(cs:List Value)(ds:List Dt):Prop:=cs.length=ds.length/\∀(i:Nat)v d,cs[i]? =some v->ds[i]? =some d->dG (λb=>b<w.heap.size) w d v
theorem i3.nil:i3 w [] []:=⟨rfl,aG⟩
theorem i3.one{v:Value}{d:Dt}(h:dG (λb=>b<w.heap.size) w d v):i3 w [v] [d]:=by
 refine⟨rfl,λi v' d' h1 h2=>?_⟩
 cases i with
 |zero=>simp at h1 h2;subst h1 h2;exact h
 |succ i=>simp at h1
theorem i3.append{a b:List Value}{x y:List Dt}(h:i3 w a x)(h':i3 w b y):i3 w (a++b) (x++y):=by
 refine⟨by simp[h.1,h'.1],λi v d h1 h2=>?_⟩
 rcases aaD i a.length with ay|eO
 .rw[aaM ay]at h1;rw[aaM (by rw[<-h.1];exact ay)]at h2
  exact h.2 i v d h1 h2
 .rw[aaO eO]at h1;rw[aaO (by rw[<-h.1];exact eO)]at h2
  exact h'.2 _ v d h1 (by rw[h.1];exact h2)
theorem LJ{a:Addr}{v:Value}(h:w.cell? a=some v):a.spot=none:=by
 unfold World.cell? at h;split at h
 .split at h
  .cases h
  .rename_i hs;cases Av:a.spot with
   |none=>rfl
   |some x=>rw[Av]at hs;simp at hs
 .cases h
theorem G7(bk:S3 H):∀(d:Nat)(t:TypeId)(ls:List Lf),qD P d t=some ls->∀(fuel:Nat)(cs:List Value)(x:DataW H×List MemPlace),DataW.trod enc P w aB spare held fuel t cs=some x->
  ∃ds,ke ls ds/\i3 w cs ds/\Dt.gW ds<=bk.f x.1:=by
 intro d
 induction d with
 |zero=>intro t ls h;simp[qD]at h
 |succ d ih=>
  intro t ls h fuel cs x hx;simp only[qD]at h;split at h
  .rename_i ht;cases h;obtain⟨b,rfl,rfl⟩:=DataW.trod_bool ht hx;exact⟨[.val (.bool b)],.b b .nil,i3.one (.val _ rfl),by simpa[Dt.gW,Dt.size]using bk.lit _⟩
  .rename_i k ht;cases h;obtain⟨n,rfl,rfl,hw⟩:=DataW.trod_int ht hx;exact⟨[.val (.int k n)],.i k n hw .nil,i3.one (.val _ rfl),by simpa[Dt.gW,Dt.size]using bk.lit _⟩
  .rename_i ht;cases h;obtain⟨s,rfl,rfl,hs⟩:=DataW.trod_string ht hx;refine⟨[.val (.string s)],.s s .nil,i3.one (.val _ rfl),?_⟩;have:s.data.toList.length=s.size:=by rw[adP];rfl
   simp only[Dt.gW,Dt.size,bk.str,this];omega
  .rename_i e ht;split at h
   .rename_i es oR;split at h
    .rename_i hc;cases h;rcases DataW.trod_slice ht hx with⟨rfl,rfl⟩|⟨a,len,cap,elems,rest,n,rfl,rfl,rfl,hb,uK,hcm,LK,wF,_,_⟩
     .exact⟨[.sl es.length []],.sl es [] aG .nil,i3.one (.nil _ none 0 (aad _)),by simpa[Dt.gW,Dt.size,Dt.ep]using bk.nil⟩
     .have m6:∀i,i<len->∃DM x0 Sd,w.cells? aB (a.add (i*es.length)) es.length=some DM/\elems[i]? =some x0/\ke es Sd/\i3 w DM Sd/\Dt.gW Sd<=bk.f x0.1:=by intro i hi;have h1:=wF i hi;rw[hc.1]at h1;have ay:i<elems.length:=om;rw[xm ay]at h1;obtain⟨DM,Es,OY⟩:=V3.1 h1;obtain⟨Sd,f0,r0,s0⟩:=ih e es oR n DM _ OY;exact⟨DM,_,Sd,Es,xm ay,f0,r0,s0⟩
      have mk:∀k,k<=len->∃sG:List (List Dt),sG.length=k/\(∀e,e∈sG->ke es e)/\(∀(i:Nat)Sd,sG[i]? =some Sd->∃DM,w.cells? aB (a.add (i*es.length)) es.length=some DM/\i3 w DM Sd)/\
        Dt.ep sG<=m7 bk.f ((elems.take k).map (·.1)):=by
       intro k
       induction k with
       |zero=>intro _;exact⟨[],rfl,aG,aG,by simp[Dt.ep]⟩
       |succ k ihk=>
        intro hk;obtain⟨sG,h1,h2,h3,h4⟩:=ihk om;obtain⟨DM,x0,Sd,Es,hx0,f0,r0,s0⟩:=m6 k om;refine⟨sG++ [Sd],by simp[h1],λe he=>?_,λi ds' hi=>?_,?_⟩
        .rcases abJ.1 he with he|he
         .exact h2 e he
         .simp at he;subst he;exact f0
        .rcases aex i k with ay|rfl|Se
         .rw[aaM om]at hi;exact h3 i ds' hi
         .rw[aaO om,h1]at hi;simp at hi;subst hi;exact⟨DM,Es,r0⟩
         .rw[aaO om,h1,show i-k=(i-k-1)+1 by omega]at hi
          simp at hi
        .have Ce:elems.take (k+1)=elems.take k++ [x0]:=by rw[adr,hx0];rfl
         have afg:∀(p q:List (DataW H)),m7 bk.f (p++q)=m7 bk.f p+m7 bk.f q:=by
          intro p
          induction p with
          |nil=>intro q;simp[m7]
          |cons y r ihp=>intro q;simp[m7,ihp q];omega
         have hLL:∀(p q:List (List Dt)),Dt.ep (p++q)=Dt.ep p+Dt.ep q:=by
          intro p
          induction p with
          |nil=>intro q;simp[Dt.ep]
          |cons y r ihp=>intro q;simp[Dt.ep,ihp q];omega
         rw[Ce,abT,afg,hLL];simp only[ac6,aeW,m7,Dt.ep];omega
      obtain⟨sG,h1,h2,h3,h4⟩:=mk len (aah _);refine⟨[.sl es.length sG],.sl es sG h2 .nil,i3.one ?_,?_⟩
      .rcases acO len with h0|dQ
       .subst h0;rw[aaW h1];exact .nil _ _ _ hcm
       .have h0:=h3 0 sG[0] (xm om);obtain⟨DM,Es,hr0⟩:=h0;obtain⟨wb,NM,Cx⟩:=World.cells?_some Es;have Av:a.spot=none:=by
         have h5:=Cx 0 hc.2;have hz:((a.add (0*es.length)).add 0)=a:=by simp[Addr.add]
         rw[hz]at h5;have ay:0<DM.length:=om;rw[xm ay]at h5;exact LJ h5
        have hblk:a.block<w.heap.size:=by
         have:=World.cells?_block Es hc.2;have hz:(a.add (0*es.length))=a:=by simp[Addr.add]
         rw[hz]at this;exact this
        have WR:∀i j,((a.add (i*es.length)).add j)=⟨a.block,a.off+i*es.length+j,none⟩:=by
         intro i j;obtain⟨ab,ao,asp⟩:=a;simp only at Av;subst Av;unfold Addr.add;split<;>split<;>simp_all
        rw[<-h1];have ea:a=⟨a.block,a.off,none⟩:=by obtain⟨ab,ao,asp⟩:=a;simp only at Av;subst Av;rfl
        rw[ea];have key:∀(i:Nat)fD(j:Nat)d',sG[i]? =some fD->fD[j]? =some d'->∃u,w.cell? ⟨a.block,a.off+i*es.length+j,none⟩=some u/\dG (λb=>b<w.heap.size) w d' u:=by
         intro i fD j d' hi hj;obtain⟨cs1,aaN,DN⟩:=h3 i fD hi;obtain⟨_,sx,Cy⟩:=World.cells?_some aaN;have bV:j<cs1.length:=by rw[DN.1];exact(Mp.1 hj).1
         have h6:=Cy j om;rw[WR,xm bV]at h6;exact⟨_,h6,DN.2 j _ d' (xm bV) hj⟩
        refine dG.sl es.length sG a.block a.off cap (λi j=>(w.cell? ⟨a.block,a.off+i*es.length+j,none⟩).getD Go.undef) hblk om hcm (λfD Ow=>(h2 fD Ow).len)
         (λi fD j d' hi hj=>by obtain⟨u,hu,_⟩:=key i fD j d' hi hj;rw[hu];rfl)
         (λi fD j d' hi hj=>by obtain⟨u,hu,hd⟩:=key i fD j d' hi hj;rw[hu];exact hd)
      .have h5:=bk.slice (elems.map (·.1)) (rest.map (·.1))
       have h6:elems.take len=elems:=adm om;rw[h6]at h4;simp only[Dt.gW,Dt.size];omega
    .cases h
   .cases h
  .rename_i fs ht;obtain⟨xs,n,rfl,rfl,hl,hlen,hf⟩:=DataW.trod_struct ht hx;have go:∀(l:List Field)(k off:Nat)(ls:List Lf),fs.toList.drop k=l->yz P (qD P d) l off=some ls->cs.length=off+ls.length->∃ds,ke ls ds/\i3 w (cs.drop off) ds/\Dt.gW ds<=m7 bk.f ((xs.drop k).map (·.1)):=by
    intro l
    induction l with
    |nil=>
     intro k off ls _ uW ia;simp only[yz]at uW;cases uW;refine⟨[],.nil,?_,by simp[Dt.gW]⟩
     have:cs.drop off=[]:=adY (by simp at ia;omega)
     rw[this];exact i3.nil
    |cons f r ihl=>
     intro k off ls hk uW ia;simp only[yz]at uW;split at uW
     .rename_i G2;split at uW
      .rename_i ks hks;split at uW
       .rename_i hck;split at uW
        .rename_i rs Xe;cases uW;have hfk:fs[k]? =some f:=by
          have:(fs.toList.drop k)[0]? =some f:=by rw[hk];rfl
          simpa using this
         have hr:fs.toList.drop (k+1)=r:=by rw[<-List.tail_drop,hk];rfl
         have fj:k<xs.length:=by rw[hlen];exact(abG.1 hfk).1
         have OY:=hf k f hfk;rw[G2,hck,xm fj]at OY;obtain⟨ds1,f1,r1,s1⟩:=ih f.type ks hks n _ _ OY;rw[acs]at ia;obtain⟨ds2,f2,r2,s2⟩:=ihl (k+1) (off+ks.length) rs hr Xe om;refine⟨ds1++ds2,f1.append f2,?_,?_⟩
         .have:cs.drop off=(cs.drop off).take ks.length++cs.drop (off+ks.length):=by rw[<-aff,aec]
          rw[this];exact r1.append r2
         .rw[Dt.o5,adV fj];simp only[ac6,m7];omega
        .cases uW
       .cases uW
      .cases uW
     .cases uW
   split at h
   .rename_i ls' uW;split at h
    .rename_i hc;cases h;obtain⟨ds,f1,r1,s1⟩:=go fs.toList 0 0 _ aG uW om;refine⟨ds,f1,by simpa using r1,?_⟩
     have:=bk.agg (xs.map (·.1))
     simp only[aer]at s1;show _<=bk.f (DataW.agg (xs.map (·.1)))
     omega
    .cases h
   .cases h
  .rename_i n e ht;split at h
   .rename_i es oR;split at h
    .rename_i hc;cases h;obtain⟨xs,m,rfl,rfl,hl,hlen,wF⟩:=DataW.trod_array ht hx;have go:∀(k i:Nat),i+k=n->∃ds,ke (Xf k es) ds/\i3 w (cs.drop (i*es.length)) ds/\Dt.gW ds<=m7 bk.f ((xs.drop i).map (·.1)):=by
      intro k
      induction k with
      |zero=>
       intro i hi;refine⟨[],.nil,?_,by simp[Dt.gW]⟩
       have:cs.drop (i*es.length)=[]:=adY (by rw[hl,hc.2,show i=n by omega];exact aah _)
       rw[this];exact i3.nil
      |succ k ihk=>
       intro i hi;have OY:=wF i om;have qE:i<xs.length:=om;rw[hc.1,xm qE]at OY;obtain⟨ds1,f1,r1,s1⟩:=ih e es oR m _ _ OY;obtain⟨ds2,f2,r2,s2⟩:=ihk (i+1) om;refine⟨ds1++ds2,f1.append f2,?_,?_⟩
       .have:cs.drop (i*es.length)=(cs.drop (i*es.length)).take es.length++cs.drop ((i+1)*es.length):=by rw[ade,adG,<-aff,aec]
        rw[this];exact r1.append r2
       .rw[Dt.o5,adV qE];simp only[ac6,m7];omega
     obtain⟨ds,f1,r1,s1⟩:=go n 0 om;refine⟨ds,f1,by simpa using r1,?_⟩
     have:=bk.agg (xs.map (·.1))
     simp only[aer]at s1;show _<=bk.f (DataW.agg (xs.map (·.1)))
     omega
    .cases h
   .cases h
  .cases h
def aaQ(agg:Bool)(ds:List Dt):CV:=match agg,ds with
 |true,ds=>.rv (.agg (ds.map .ai))
 |false,[d]=>.rv (.one (.ai d))
 |false,_=>.aL
theorem OZ{agg:Bool}{v:Value}{ds:List Dt}(hr:i3 w v.cells.toList ds)(ha:agg=true->∃vs,v= .agg vs)(hn:agg=false->v.oneCell'=true):cG (LI w) w (aaQ agg ds) v:=by
 cases agg with
 |true=>
  obtain⟨vs,rfl⟩:=ha rfl;refine⟨vs.toList,aG,by simpa[Value.cells]using hr.1,λi c hi=>?_⟩
  rw[Rn]at hi;cases hd:ds[i]? with
  |none=>rw[hd]at hi;cases hi
  |some d=>
   rw[hd]at hi;cases hi;have ay:i<vs.toList.length:=by have:=(Mp.1 hd).1;have h1:=hr.1;simp only[Value.cells]at h1;omega
   exact⟨_,xm ay,hr.2 i _ d (xm ay) hd⟩
 |false=>
  have h1:=hn rfl;have hc:v.cells.toList=[v]:=by cases v<;>first|rfl|simp[Value.oneCell']at h1
  rw[hc]at hr
  match ds,hr with
  | [d],hr=>exact hr.2 0 v d rfl rfl
end
end Go.AM
