/- Part 14 of 43: what the law stands on. -/
import Derived.Test.YtojhmadmlnfpcaaGreatDoorK13
import Derived.ChangeArms
import Derived.OpenShut
set_option linter.unusedVariables false
set_option linter.unusedSimpArgs false
set_option linter.unnecessarySimpa false
set_option maxRecDepth 100000
set_option maxHeartbeats 64000000
namespace Go.AM
inductive Lf where
 |b
 |i (k:IntKind)
 |s
 |sl (ls:List Lf)
inductive ff:List Lf->List Dt->Prop
 |nil:ff [] []
 |b (x:Bool) {ls:List Lf} {ds:List Dt} (h:ff ls ds):ff (.b::ls) (.val (.bool x)::ds)
 |i (k:IntKind) (n:Int) {ls:List Lf} {ds:List Dt} (hw:(Lit.int k n).wf=true) (h:ff ls ds):ff (.i k::ls) (.val (.int k n)::ds)
 |s (x:ByteArray) {ls:List Lf} {ds:List Dt} (h:ff ls ds):ff (.s::ls) (.val (.string x)::ds)
 |sl (es:List Lf) (elems:List (List Dt)) {ls:List Lf} {ds:List Dt} (he:∀e,e∈elems->ff es e) (h:ff ls ds):ff (.sl es::ls) (.sl es.length elems::ds)
theorem ff.len{ls:List Lf}{ds:List Dt}(h:ff ls ds):ds.length=ls.length:=by
 induction h with
 |nil=>rfl
 |b _ _ ih=>simp[ih]
 |i _ _ _ _ ih=>simp[ih]
 |s _ _ ih=>simp[ih]
 |sl _ _ _ _ _ ih=>simp[ih]
theorem ff.append{ls Yn:List Lf}{ds WV:List Dt}(h:ff ls ds)(h':ff Yn WV):ff (ls++Yn) (ds++WV):=by
 induction h with
 |nil=>exact h'
 |b x _ ih=>exact .b x ih
 |i k n hw _ ih=>exact .i k n hw ih
 |s x _ ih=>exact .s x ih
 |sl es elems he _ _ ih=>exact .sl es elems he ih
mutual
def Dt.size:Dt->Nat
 | .val (.string s)=>s.size+1
 | .val _=>1
 | .sl _ elems=>Dt.bA elems+1
def Dt.cW:List Dt->Nat
 | []=>0
 |d::r=>d.size+Dt.cW r
def Dt.bA:List (List Dt)->Nat
 | []=>0
 |l::r=>Dt.cW l+Dt.bA r
end
theorem Dt.mY:∀(a b:List Dt),Dt.cW (a++b)=Dt.cW a+Dt.cW b
 | [],b=>by simp[Dt.cW]
 |x::r,b=>by simp[Dt.cW,Dt.mY r b];omega
def gi{H:Type}(f:DataW H->Nat):List (DataW H)->Nat
 | []=>0
 |d::r=>f d+gi f r
structure EB(H:Type) where
 f:DataW H->Nat
 str:∀s,f (.lit (.string s))=s.length+1
 lit:∀l,1<=f (.lit l)
 nil:1<=f .nil
 slice:∀a b,gi f a+gi f b+1<=f (.slice a b)
 agg:∀a,gi f a<=f (.agg a)
def vH(P:Program)(g:TypeId->Option (List Lf)):List Field->Nat->Option (List Lf)
 | [],_=>some []
 |f::r,off=>if f.offset=off then
   match g f.type with
   |some ks=>if P.cellsOf f.type=ks.length then
     match vH P g r (off+ks.length)with
     |some ls=>some (ks++ls)
     |none=>none
    else none
   |none=>none
  else none
def RX{α:Type}:Nat->List α->List α
 |0,_=>[]
 |n+1,l=>l++RX n l
def n8(P:Program):Nat->TypeId->Option (List Lf)
 |0,_=>none
 |d+1,t=>match P.underlying t with
  |some .bool=>some [.b]
  |some (.int k)=>some [.i k]
  |some .string=>some [.s]
  |some (.slice e)=>match n8 P d e with
   |some ls=>if P.cellsOf e=ls.length/\0<ls.length then some [.sl ls]else none
   |none=>none
  |some (.struct fs)=>match vH P (n8 P d) fs.toList 0 with
   |some ls=>if P.cellsOf t=ls.length then some ls else none
   |none=>none
  |some (.array n e)=>match n8 P d e with
   |some ls=>if P.cellsOf e=ls.length/\P.cellsOf t=n*ls.length then some (RX n ls)else none
   |none=>none
  |_=>none
section
variable {H:Type} {enc:TypeId×Value->H} {P:Program} {w:World} {ax:Nat} {spare:Nat->Bool} {held:Bool}
def gG(w:World)(cs:List Value)(ds:List Dt):Prop:=cs.length=ds.length/\∀(i:Nat)v d,cs[i]? =some v->ds[i]? =some d->dz (fun b=>b<w.heap.size) w d v
theorem gG.nil:gG w [] []:=⟨rfl,aG⟩
theorem gG.one{v:Value}{d:Dt}(h:dz (fun b=>b<w.heap.size) w d v):gG w [v] [d]:=by
 refine⟨rfl,fun i v' d' h1 h2=>?_⟩
 cases i with
 |zero=>simp at h1 h2;subst h1 h2;exact h
 |succ i=>simp at h1
theorem gG.append{a b:List Value}{x y:List Dt}(h:gG w a x)(h':gG w b y):gG w (a++b) (x++y):=by
 refine⟨by simp[h.1,h'.1],fun i v d h1 h2=>?_⟩
 rcases aaq i a.length with aC|ei
 .rw[aar aC]at h1;rw[aar (by rw[<-h.1];exact aC)]at h2
  exact h.2 i v d h1 h2
 .rw[aan ei]at h1;rw[aan (by rw[<-h.1];exact ei)]at h2
  exact h'.2 _ v d h1 (by rw[h.1];exact h2)
theorem Iz{a:Addr}{v:Value}(h:w.cell? a=some v):a.spot=none:=by
 unfold World.cell? at h;split at h
 .split at h
  .cases h
  .rename_i hs;cases zS:a.spot with
   |none=>rfl
   |some x=>rw[zS]at hs;simp at hs
 .cases h
theorem EC(bk:EB H):∀(d:Nat)(t:TypeId)(ls:List Lf),n8 P d t=some ls->∀(fuel:Nat)(cs:List Value)(x:DataW H×List MemPlace),DataW.trod enc P w ax spare held fuel t cs=some x->
  ∃ds,ff ls ds/\gG w cs ds/\Dt.cW ds<=bk.f x.1:=by
 intro d
 induction d with
 |zero=>intro t ls h;simp[n8]at h
 |succ d ih=>
  intro t ls h fuel cs x hx;simp only[n8]at h;split at h
  .rename_i ht;cases h;obtain⟨b,rfl,rfl⟩:=DataW.trod_bool ht hx;exact⟨[.val (.bool b)],.b b .nil,gG.one (.val _ rfl),by simpa[Dt.cW,Dt.size]using bk.lit _⟩
  .rename_i k ht;cases h;obtain⟨n,rfl,rfl,hw⟩:=DataW.trod_int ht hx;exact⟨[.val (.int k n)],.i k n hw .nil,gG.one (.val _ rfl),by simpa[Dt.cW,Dt.size]using bk.lit _⟩
  .rename_i ht;cases h;obtain⟨s,rfl,rfl,hs⟩:=DataW.trod_string ht hx;refine⟨[.val (.string s)],.s s .nil,gG.one (.val _ rfl),?_⟩;have:s.data.toList.length=s.size:=by rw[abv];rfl
   simp only[Dt.cW,Dt.size,bk.str,this];omega
  .rename_i e ht;split at h
   .rename_i es qn;split at h
    .rename_i hc;cases h;rcases DataW.trod_slice ht hx with⟨rfl,rfl⟩|⟨a,len,cap,elems,rest,n,rfl,rfl,rfl,hb,rP,WM,Ll,IA,_,_⟩
     .exact⟨[.sl es.length []],.sl es [] aG .nil,gG.one (.nil _ none 0 (aao _)),by simpa[Dt.cW,Dt.size,Dt.bA]using bk.nil⟩
     .have lm:∀i,i<len->∃Bo x0 Od,w.cells? ax (a.add (i*es.length)) es.length=some Bo/\elems[i]? =some x0/\ff es Od/\gG w Bo Od/\Dt.cW Od<=bk.f x0.1:=by intro i hi;have h1:=IA i hi;rw[hc.1]at h1;have aC:i<elems.length:=om;rw[aab aC]at h1;obtain⟨Bo,B7,Lm⟩:=aae.1 h1;obtain⟨Od,f0,r0,s0⟩:=ih e es qn n Bo _ Lm;exact⟨Bo,_,Od,B7,aab aC,f0,r0,s0⟩
      have mk:∀k,k<=len->∃jX:List (List Dt),jX.length=k/\(∀e,e∈jX->ff es e)/\(∀(i:Nat)Od,jX[i]? =some Od->∃Bo,w.cells? ax (a.add (i*es.length)) es.length=some Bo/\gG w Bo Od)/\
        Dt.bA jX<=gi bk.f ((elems.take k).map (·.1)):=by
       intro k
       induction k with
       |zero=>intro _;exact⟨[],rfl,aG,aG,by simp[Dt.bA]⟩
       |succ k Yo=>
        intro hk;obtain⟨jX,h1,h2,h3,h4⟩:=Yo om;obtain⟨Bo,x0,Od,B7,Ui,f0,r0,s0⟩:=lm k om;refine⟨jX++ [Od],by simp[h1],fun e he=>?_,fun i WV hi=>?_,?_⟩
        .rcases abf.1 he with he|he
         .exact h2 e he
         .simp at he;subst he;exact f0
        .rcases ach i k with aC|rfl|hgt
         .rw[aar om]at hi;exact h3 i WV hi
         .rw[aan om,h1]at hi;simp at hi;subst hi;exact⟨Bo,B7,r0⟩
         .rw[aan om,h1,show i-k=(i-k-1)+1 by omega]at hi
          simp at hi
        .have zA:elems.take (k+1)=elems.take k++ [x0]:=by rw[aa8,Ui];rfl
         have Yp:∀(p q:List (DataW H)),gi bk.f (p++q)=gi bk.f p+gi bk.f q:=by
          intro p
          induction p with
          |nil=>intro q;simp[gi]
          |cons y r Yq=>intro q;simp[gi,Yq q];omega
         have hLL:∀(p q:List (List Dt)),Dt.bA (p++q)=Dt.bA p+Dt.bA q:=by
          intro p
          induction p with
          |nil=>intro q;simp[Dt.bA]
          |cons y r Yq=>intro q;simp[Dt.bA,Yq q];omega
         rw[zA,aaU,Yp,hLL];simp only[aaX,acr,gi,Dt.bA];omega
      obtain⟨jX,h1,h2,h3,h4⟩:=mk len (aaj _);refine⟨[.sl es.length jX],.sl es jX h2 .nil,gG.one ?_,?_⟩
      .rcases aaY len with h0|dD
       .subst h0;rw[aat h1];exact .nil _ _ _ WM
       .have h0:=h3 0 jX[0] (aab om);obtain⟨Bo,B7,hr0⟩:=h0;obtain⟨xO,WR,zT⟩:=World.cells?_some B7;have zS:a.spot=none:=by
         have h5:=zT 0 hc.2;have hz:((a.add (0*es.length)).add 0)=a:=by simp[Addr.add]
         rw[hz]at h5;have aC:0<Bo.length:=om;rw[aab aC]at h5;exact Iz h5
        have hblk:a.block<w.heap.size:=by
         have:=World.cells?_block B7 hc.2;have hz:(a.add (0*es.length))=a:=by simp[Addr.add]
         rw[hz]at this;exact this
        have RC:∀i j,((a.add (i*es.length)).add j)=⟨a.block,a.off+i*es.length+j,none⟩:=by
         intro i j;obtain⟨ab,ao,asp⟩:=a;simp only at zS;subst zS;unfold Addr.add;split<;>split<;>simp_all
        rw[<-h1];have ea:a=⟨a.block,a.off,none⟩:=by obtain⟨ab,ao,asp⟩:=a;simp only at zS;subst zS;rfl
        rw[ea];have key:∀(i:Nat)eu(j:Nat)d',jX[i]? =some eu->eu[j]? =some d'->∃u,w.cell? ⟨a.block,a.off+i*es.length+j,none⟩=some u/\dz (fun b=>b<w.heap.size) w d' u:=by
         intro i eu j d' hi hj;obtain⟨cs1,UQ,Bp⟩:=h3 i eu hi;obtain⟨_,BI,zU⟩:=World.cells?_some UQ;have dA:j<cs1.length:=by rw[Bp.1];exact(aac.1 hj).1
         have h6:=zU j om;rw[RC,aab dA]at h6;exact⟨_,h6,Bp.2 j _ d' (aab dA) hj⟩
        refine dz.sl es.length jX a.block a.off cap (fun i j=>(w.cell? ⟨a.block,a.off+i*es.length+j,none⟩).getD Go.undef) hblk om WM (fun eu KT=>(h2 eu KT).len)
         (fun i eu j d' hi hj=>by obtain⟨u,hu,_⟩:=key i eu j d' hi hj;rw[hu];rfl)
         (fun i eu j d' hi hj=>by obtain⟨u,hu,hd⟩:=key i eu j d' hi hj;rw[hu];exact hd)
      .have h5:=bk.slice (elems.map (·.1)) (rest.map (·.1))
       have h6:elems.take len=elems:=abm om;rw[h6]at h4;simp only[Dt.cW,Dt.size];omega
    .cases h
   .cases h
  .rename_i fs ht;obtain⟨xs,n,rfl,rfl,hl,hlen,hf⟩:=DataW.trod_struct ht hx;have go:∀(l:List Field)(k off:Nat)(ls:List Lf),fs.toList.drop k=l->vH P (n8 P d) l off=some ls->cs.length=off+ls.length->∃ds,ff ls ds/\gG w (cs.drop off) ds/\Dt.cW ds<=gi bk.f ((xs.drop k).map (·.1)):=by
    intro l
    induction l with
    |nil=>
     intro k off ls _ r8 gZ;simp only[vH]at r8;cases r8;refine⟨[],.nil,?_,by simp[Dt.cW]⟩
     have:cs.drop off=[]:=acj (by simp at gZ;omega)
     rw[this];exact gG.nil
    |cons f r ihl=>
     intro k off ls hk r8 gZ;simp only[vH]at r8;split at r8
     .rename_i Eu;split at r8
      .rename_i ks Kh;split at r8
       .rename_i hck;split at r8
        .rename_i rs RW;cases r8;have IB:fs[k]? =some f:=by
          have:(fs.toList.drop k)[0]? =some f:=by rw[hk];rfl
          simpa using this
         have hr:fs.toList.drop (k+1)=r:=by rw[<-List.tail_drop,hk];rfl
         have Ln:k<xs.length:=by rw[hlen];exact(aaF.1 IB).1
         have Lm:=hf k f IB;rw[Eu,hck,aab Ln]at Lm;obtain⟨WW,f1,r1,s1⟩:=ih f.type ks Kh n _ _ Lm;rw[aa3]at gZ;obtain⟨Yr,f2,r2,s2⟩:=ihl (k+1) (off+ks.length) rs hr RW om;refine⟨WW++Yr,f1.append f2,?_,?_⟩
         .have:cs.drop off=(cs.drop off).take ks.length++cs.drop (off+ks.length):=by rw[<-List.drop_drop,abV]
          rw[this];exact r1.append r2
         .rw[Dt.mY,ab5 Ln];simp only[aaX,gi];omega
        .cases r8
       .cases r8
      .cases r8
     .cases r8
   split at h
   .rename_i Yn r8;split at h
    .rename_i hc;cases h;obtain⟨ds,f1,r1,s1⟩:=go fs.toList 0 0 _ aG r8 om;refine⟨ds,f1,by simpa using r1,?_⟩
     have:=bk.agg (xs.map (·.1))
     simp only[acC]at s1;show _<=bk.f (DataW.agg (xs.map (·.1)))
     omega
    .cases h
   .cases h
  .rename_i n e ht;split at h
   .rename_i es qn;split at h
    .rename_i hc;cases h;obtain⟨xs,m,rfl,rfl,hl,hlen,IA⟩:=DataW.trod_array ht hx;have go:∀(k i:Nat),i+k=n->∃ds,ff (RX k es) ds/\gG w (cs.drop (i*es.length)) ds/\Dt.cW ds<=gi bk.f ((xs.drop i).map (·.1)):=by
      intro k
      induction k with
      |zero=>
       intro i hi;refine⟨[],.nil,?_,by simp[Dt.cW]⟩
       have:cs.drop (i*es.length)=[]:=acj (by rw[hl,hc.2,show i=n by omega];exact aaj _)
       rw[this];exact gG.nil
      |succ k Yo=>
       intro i hi;have Lm:=IA i om;have UR:i<xs.length:=om;rw[hc.1,aab UR]at Lm;obtain⟨WW,f1,r1,s1⟩:=ih e es qn m _ _ Lm;obtain⟨Yr,f2,r2,s2⟩:=Yo (i+1) om;refine⟨WW++Yr,f1.append f2,?_,?_⟩
       .have:cs.drop (i*es.length)=(cs.drop (i*es.length)).take es.length++cs.drop ((i+1)*es.length):=by rw[aa2,abl,<-List.drop_drop,abV]
        rw[this];exact r1.append r2
       .rw[Dt.mY,ab5 UR];simp only[aaX,gi];omega
     obtain⟨ds,f1,r1,s1⟩:=go n 0 om;refine⟨ds,f1,by simpa using r1,?_⟩
     have:=bk.agg (xs.map (·.1))
     simp only[acC]at s1;show _<=bk.f (DataW.agg (xs.map (·.1)))
     omega
    .cases h
   .cases h
  .cases h
def US(agg:Bool)(ds:List Dt):CV:=match agg,ds with
 |true,ds=>.rv (.agg (ds.map .aa))
 |false,[d]=>.rv (.one (.aa d))
 |false,_=>.ap
theorem Lo{agg:Bool}{v:Value}{ds:List Dt}(hr:gG w v.cells.toList ds)(ha:agg=true->∃vs,v= .agg vs)(hn:agg=false->v.oneCell'=true):b8 (Iy w) w (US agg ds) v:=by
 cases agg with
 |true=>
  obtain⟨vs,rfl⟩:=ha rfl;refine⟨vs.toList,aG,by simpa[Value.cells]using hr.1,fun i c hi=>?_⟩
  rw[aaf]at hi;cases hd:ds[i]? with
  |none=>rw[hd]at hi;cases hi
  |some d=>
   rw[hd]at hi;cases hi;have aC:i<vs.toList.length:=by have:=(aac.1 hd).1;have h1:=hr.1;simp only[Value.cells]at h1;omega
   exact⟨_,aab aC,hr.2 i _ d (aab aC) hd⟩
 |false=>
  have h1:=hn rfl;have hc:v.cells.toList=[v]:=by cases v<;>first|rfl|simp[Value.oneCell']at h1
  rw[hc]at hr
  match ds,hr with
  | [d],hr=>exact hr.2 0 v d rfl rfl
end
end Go.AM
