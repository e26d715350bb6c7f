/- Part 14 of 41: what the law stands on. -/
import Derived.Test.YthagjdhjmamakaaGreatDoorT13
import Derived.ChangeArms
import Derived.OpenShut
set_option linter.unusedVariables false
set_option linter.unusedSimpArgs false
set_option linter.unnecessarySimpa false
set_option maxRecDepth 100000
set_option maxHeartbeats 64000000
namespace Go.AM
inductive Lf where
 |b
 |i (k:IntKind)
 |s
 |sl (ls:List Lf)
inductive jl:List Lf->List Dt->Prop
 |nil:jl [] []
 |b (x:Bool) {ls:List Lf} {ds:List Dt} (h:jl ls ds):jl (.b::ls) (.val (.bool x)::ds)
 |i (k:IntKind) (n:Int) {ls:List Lf} {ds:List Dt} (hw:(Lit.int k n).wf=true) (h:jl ls ds):jl (.i k::ls) (.val (.int k n)::ds)
 |s (x:ByteArray) {ls:List Lf} {ds:List Dt} (h:jl ls ds):jl (.s::ls) (.val (.string x)::ds)
 |sl (es:List Lf) (elems:List (List Dt)) {ls:List Lf} {ds:List Dt} (he:∀e,e∈elems->jl es e) (h:jl ls ds):jl (.sl es::ls) (.sl es.length elems::ds)
theorem jl.len{ls:List Lf}{ds:List Dt}(h:jl ls ds):ds.length=ls.length:=by
 induction h with
 |nil=>rfl
 |b _ _ ih=>simp[ih]
 |i _ _ _ _ ih=>simp[ih]
 |s _ _ ih=>simp[ih]
 |sl _ _ _ _ _ ih=>simp[ih]
theorem jl.append{ls WT:List Lf}{ds Vr:List Dt}(h:jl ls ds)(h':jl WT Vr):jl (ls++WT) (ds++Vr):=by
 induction h with
 |nil=>exact h'
 |b x _ ih=>exact .b x ih
 |i k n hw _ ih=>exact .i k n hw ih
 |s x _ ih=>exact .s x ih
 |sl es elems he _ _ ih=>exact .sl es elems he ih
mutual
def Dt.size:Dt->Nat
 | .val (.string s)=>s.size+1
 | .val _=>1
 | .sl _ elems=>Dt.eW elems+1
def Dt.gu:List Dt->Nat
 | []=>0
 |d::r=>d.size+Dt.gu r
def Dt.eW:List (List Dt)->Nat
 | []=>0
 |l::r=>Dt.gu l+Dt.eW r
end
theorem Dt.l8:∀(a b:List Dt),Dt.gu (a++b)=Dt.gu a+Dt.gu b
 | [],b=>by simp[Dt.gu]
 |x::r,b=>by simp[Dt.gu,Dt.l8 r b];omega
def gD{H:Type}(f:DataW H->Nat):List (DataW H)->Nat
 | []=>0
 |d::r=>f d+gD f r
structure G2(H:Type) where
 f:DataW H->Nat
 str:∀s,f (.lit (.string s))=s.length+1
 lit:∀l,1<=f (.lit l)
 nil:1<=f .nil
 slice:∀a b,gD f a+gD f b+1<=f (.slice a b)
 agg:∀a,gD f a<=f (.agg a)
def uy(P:Program)(g:TypeId->Option (List Lf)):List Field->Nat->Option (List Lf)
 | [],_=>some []
 |f::r,off=>if f.offset=off then
   match g f.type with
   |some ks=>if P.cellsOf f.type=ks.length then
     match uy P g r (off+ks.length)with
     |some ls=>some (ks++ls)
     |none=>none
    else none
   |none=>none
  else none
def P8{α:Type}:Nat->List α->List α
 |0,_=>[]
 |n+1,l=>l++P8 n l
def nk(P:Program):Nat->TypeId->Option (List Lf)
 |0,_=>none
 |d+1,t=>match P.underlying t with
  |some .bool=>some [.b]
  |some (.int k)=>some [.i k]
  |some .string=>some [.s]
  |some (.slice e)=>match nk P d e with
   |some ls=>if P.cellsOf e=ls.length/\0<ls.length then some [.sl ls]else none
   |none=>none
  |some (.struct fs)=>match uy P (nk P d) fs.toList 0 with
   |some ls=>if P.cellsOf t=ls.length then some ls else none
   |none=>none
  |some (.array n e)=>match nk P d e with
   |some ls=>if P.cellsOf e=ls.length/\P.cellsOf t=n*ls.length then some (P8 n ls)else none
   |none=>none
  |_=>none
section
variable {H:Type} {enc:TypeId×Value->H} {P:Program} {w:World} {au:Nat} {spare:Nat->Bool} {held:Bool}
def gg(w:World)(cs:List Value)(ds:List Dt):Prop:=cs.length=ds.length/\∀(i:Nat)v d,cs[i]? =some v->ds[i]? =some d->cZ (fun b=>b<w.heap.size) w d v
theorem gg.nil:gg w [] []:=⟨rfl,aK⟩
theorem gg.one{v:Value}{d:Dt}(h:cZ (fun b=>b<w.heap.size) w d v):gg w [v] [d]:=by
 refine⟨rfl,fun i v' d' h1 h2=>?_⟩
 cases i with
 |zero=>simp at h1 h2;subst h1 h2;exact h
 |succ i=>simp at h1
theorem gg.append{a b:List Value}{x y:List Dt}(h:gg w a x)(h':gg w b y):gg w (a++b) (x++y):=by
 refine⟨by simp[h.1,h'.1],fun i v d h1 h2=>?_⟩
 rcases XN i a.length with aF|ef
 .rw[VO aF]at h1;rw[VO (by rw[<-h.1];exact aF)]at h2
  exact h.2 i v d h1 h2
 .rw[UX ef]at h1;rw[UX (by rw[<-h.1];exact ef)]at h2
  exact h'.2 _ v d h1 (by rw[h.1];exact h2)
theorem G3{a:Addr}{v:Value}(h:w.cell? a=some v):a.spot=none:=by
 unfold World.cell? at h;split at h
 .split at h
  .cases h
  .rename_i hs;cases yq:a.spot with
   |none=>rfl
   |some x=>rw[yq]at hs;simp at hs
 .cases h
theorem C9(bk:G2 H):∀(d:Nat)(t:TypeId)(ls:List Lf),nk P d t=some ls->∀(fuel:Nat)(cs:List Value)(x:DataW H×List MemPlace),DataW.trod enc P w au spare held fuel t cs=some x->
  ∃ds,jl ls ds/\gg w cs ds/\Dt.gu ds<=bk.f x.1:=by
 intro d
 induction d with
 |zero=>intro t ls h;simp[nk]at h
 |succ d ih=>
  intro t ls h fuel cs x hx;simp only[nk]at h;split at h
  .rename_i ht;cases h;obtain⟨b,rfl,rfl⟩:=DataW.trod_bool ht hx;exact⟨[.val (.bool b)],.b b .nil,gg.one (.val _ rfl),by simpa[Dt.gu,Dt.size]using bk.lit _⟩
  .rename_i k ht;cases h;obtain⟨n,rfl,rfl,hw⟩:=DataW.trod_int ht hx;exact⟨[.val (.int k n)],.i k n hw .nil,gg.one (.val _ rfl),by simpa[Dt.gu,Dt.size]using bk.lit _⟩
  .rename_i ht;cases h;obtain⟨s,rfl,rfl,hs⟩:=DataW.trod_string ht hx;refine⟨[.val (.string s)],.s s .nil,gg.one (.val _ rfl),?_⟩;have:s.data.toList.length=s.size:=by rw[aaW];rfl
   simp only[Dt.gu,Dt.size,bk.str,this];omega
  .rename_i e ht;split at h
   .rename_i es pg;split at h
    .rename_i hc;cases h;rcases DataW.trod_slice ht hx with⟨rfl,rfl⟩|⟨a,len,cap,elems,rest,n,rfl,rfl,rfl,hb,qI,Vi,JE,G4,_,_⟩
     .exact⟨[.sl es.length []],.sl es [] aK .nil,gg.one (.nil _ none 0 (XL _)),by simpa[Dt.gu,Dt.size,Dt.eW]using bk.nil⟩
     .have ke:∀i,i<len->∃zN x0 Mn,w.cells? au (a.add (i*es.length)) es.length=some zN/\elems[i]? =some x0/\jl es Mn/\gg w zN Mn/\Dt.gu Mn<=bk.f x0.1:=by intro i hi;have h1:=G4 i hi;rw[hc.1]at h1;have aF:i<elems.length:=om;rw[tq aF]at h1;obtain⟨zN,AD,JF⟩:=KG.1 h1;obtain⟨Mn,f0,r0,s0⟩:=ih e es pg n zN _ JF;exact⟨zN,_,Mn,AD,tq aF,f0,r0,s0⟩
      have mk:∀k,k<=len->∃kZ:List (List Dt),kZ.length=k/\(∀e,e∈kZ->jl es e)/\(∀(i:Nat)Mn,kZ[i]? =some Mn->∃zN,w.cells? au (a.add (i*es.length)) es.length=some zN/\gg w zN Mn)/\
        Dt.eW kZ<=gD bk.f ((elems.take k).map (·.1)):=by
       intro k
       induction k with
       |zero=>intro _;exact⟨[],rfl,aK,aK,by simp[Dt.eW]⟩
       |succ k WU=>
        intro hk;obtain⟨kZ,h1,h2,h3,h4⟩:=WU om;obtain⟨zN,x0,Mn,AD,SC,f0,r0,s0⟩:=ke k om;refine⟨kZ++ [Mn],by simp[h1],fun e he=>?_,fun i Vr hi=>?_,?_⟩
        .rcases aaF.1 he with he|he
         .exact h2 e he
         .simp at he;subst he;exact f0
        .rcases abQ i k with aF|rfl|Zl
         .rw[VO om]at hi;exact h3 i Vr hi
         .rw[UX om,h1]at hi;simp at hi;subst hi;exact⟨zN,AD,r0⟩
         .rw[UX om,h1,show i-k=(i-k-1)+1 by omega]at hi
          simp at hi
        .have ya:elems.take (k+1)=elems.take k++ [x0]:=by rw[aaL,SC];rfl
         have WV:∀(p q:List (DataW H)),gD bk.f (p++q)=gD bk.f p+gD bk.f q:=by
          intro p
          induction p with
          |nil=>intro q;simp[gD]
          |cons y r WW=>intro q;simp[gD,WW q];omega
         have hLL:∀(p q:List (List Dt)),Dt.eW (p++q)=Dt.eW p+Dt.eW q:=by
          intro p
          induction p with
          |nil=>intro q;simp[Dt.eW]
          |cons y r WW=>intro q;simp[Dt.eW,WW q];omega
         rw[ya,aax,WV,hLL];simp only[aay,abN,gD,Dt.eW];omega
      obtain⟨kZ,h1,h2,h3,h4⟩:=mk len (QN _);refine⟨[.sl es.length kZ],.sl es kZ h2 .nil,gg.one ?_,?_⟩
      .rcases aav len with h0|de
       .subst h0;rw[XJ h1];exact .nil _ _ _ Vi
       .have h0:=h3 0 kZ[0] (tq om);obtain⟨zN,AD,Zj⟩:=h0;obtain⟨wb,Vn,yr⟩:=World.cells?_some AD;have yq:a.spot=none:=by
         have h5:=yr 0 hc.2;have hz:((a.add (0*es.length)).add 0)=a:=by simp[Addr.add]
         rw[hz]at h5;have aF:0<zN.length:=om;rw[tq aF]at h5;exact G3 h5
        have hblk:a.block<w.heap.size:=by
         have:=World.cells?_block AD hc.2;have hz:(a.add (0*es.length))=a:=by simp[Addr.add]
         rw[hz]at this;exact this
        have PM:∀i j,((a.add (i*es.length)).add j)=⟨a.block,a.off+i*es.length+j,none⟩:=by
         intro i j;obtain⟨ab,ao,asp⟩:=a;simp only at yq;subst yq;unfold Addr.add;split<;>split<;>simp_all
        rw[<-h1];have ea:a=⟨a.block,a.off,none⟩:=by obtain⟨ab,ao,asp⟩:=a;simp only at yq;subst yq;rfl
        rw[ea];have key:∀(i:Nat)ek(j:Nat)d',kZ[i]? =some ek->ek[j]? =some d'->∃u,w.cell? ⟨a.block,a.off+i*es.length+j,none⟩=some u/\cZ (fun b=>b<w.heap.size) w d' u:=by
         intro i ek j d' hi hj;obtain⟨cs1,Te,zO⟩:=h3 i ek hi;obtain⟨_,Ac,yu⟩:=World.cells?_some Te;have dP:j<cs1.length:=by rw[zO.1];exact(Hy.1 hj).1
         have h6:=yu j om;rw[PM,tq dP]at h6;exact⟨_,h6,zO.2 j _ d' (tq dP) hj⟩
        refine cZ.sl es.length kZ a.block a.off cap (fun i j=>(w.cell? ⟨a.block,a.off+i*es.length+j,none⟩).getD Go.undef) hblk om Vi (fun ek Jd=>(h2 ek Jd).len)
         (fun i ek j d' hi hj=>by obtain⟨u,hu,_⟩:=key i ek j d' hi hj;rw[hu];rfl)
         (fun i ek j d' hi hj=>by obtain⟨u,hu,hd⟩:=key i ek j d' hi hj;rw[hu];exact hd)
      .have h5:=bk.slice (elems.map (·.1)) (rest.map (·.1))
       have h6:elems.take len=elems:=aaV om;rw[h6]at h4;simp only[Dt.gu,Dt.size];omega
    .cases h
   .cases h
  .rename_i fs ht;obtain⟨xs,n,rfl,rfl,hl,hlen,hf⟩:=DataW.trod_struct ht hx;have go:∀(l:List Field)(k off:Nat)(ls:List Lf),fs.toList.drop k=l->uy P (nk P d) l off=some ls->cs.length=off+ls.length->∃ds,jl ls ds/\gg w (cs.drop off) ds/\Dt.gu ds<=gD bk.f ((xs.drop k).map (·.1)):=by
    intro l
    induction l with
    |nil=>
     intro k off ls _ qV gK;simp only[uy]at qV;cases qV;refine⟨[],.nil,?_,by simp[Dt.gu]⟩
     have:cs.drop off=[]:=abU (by simp at gK;omega)
     rw[this];exact gg.nil
    |cons f r ihl=>
     intro k off ls hk qV gK;simp only[uy]at qV;split at qV
     .rename_i C3;split at qV
      .rename_i ks Tf;split at qV
       .rename_i hck;split at qV
        .rename_i rs P7;cases qV;have Tg:fs[k]? =some f:=by
          have:(fs.toList.drop k)[0]? =some f:=by rw[hk];rfl
          simpa using this
         have hr:fs.toList.drop (k+1)=r:=by rw[<-List.tail_drop,hk];rfl
         have JG:k<xs.length:=by rw[hlen];exact(aac.1 Tg).1
         have JF:=hf k f Tg;rw[C3,hck,tq JG]at JF;obtain⟨Vs,f1,r1,s1⟩:=ih f.type ks Tf n _ _ JF;rw[aaw]at gK;obtain⟨WX,f2,r2,s2⟩:=ihl (k+1) (off+ks.length) rs hr P7 om;refine⟨Vs++WX,f1.append f2,?_,?_⟩
         .have:cs.drop off=(cs.drop off).take ks.length++cs.drop (off+ks.length):=by rw[<-List.drop_drop,abY]
          rw[this];exact r1.append r2
         .rw[Dt.l8,abF JG];simp only[aay,gD];omega
        .cases qV
       .cases qV
      .cases qV
     .cases qV
   split at h
   .rename_i WT qV;split at h
    .rename_i hc;cases h;obtain⟨ds,f1,r1,s1⟩:=go fs.toList 0 0 _ aK qV om;refine⟨ds,f1,by simpa using r1,?_⟩
     have:=bk.agg (xs.map (·.1))
     simp only[abe]at s1;show _<=bk.f (DataW.agg (xs.map (·.1)))
     omega
    .cases h
   .cases h
  .rename_i n e ht;split at h
   .rename_i es pg;split at h
    .rename_i hc;cases h;obtain⟨xs,m,rfl,rfl,hl,hlen,G4⟩:=DataW.trod_array ht hx;have go:∀(k i:Nat),i+k=n->∃ds,jl (P8 k es) ds/\gg w (cs.drop (i*es.length)) ds/\Dt.gu ds<=gD bk.f ((xs.drop i).map (·.1)):=by
      intro k
      induction k with
      |zero=>
       intro i hi;refine⟨[],.nil,?_,by simp[Dt.gu]⟩
       have:cs.drop (i*es.length)=[]:=abU (by rw[hl,hc.2,show i=n by omega];exact QN _)
       rw[this];exact gg.nil
      |succ k WU=>
       intro i hi;have JF:=G4 i om;have Th:i<xs.length:=om;rw[hc.1,tq Th]at JF;obtain⟨Vs,f1,r1,s1⟩:=ih e es pg m _ _ JF;obtain⟨WX,f2,r2,s2⟩:=WU (i+1) om;refine⟨Vs++WX,f1.append f2,?_,?_⟩
       .have:cs.drop (i*es.length)=(cs.drop (i*es.length)).take es.length++cs.drop ((i+1)*es.length):=by rw[aaz,aaU,<-List.drop_drop,abY]
        rw[this];exact r1.append r2
       .rw[Dt.l8,abF Th];simp only[aay,gD];omega
     obtain⟨ds,f1,r1,s1⟩:=go n 0 om;refine⟨ds,f1,by simpa using r1,?_⟩
     have:=bk.agg (xs.map (·.1))
     simp only[abe]at s1;show _<=bk.f (DataW.agg (xs.map (·.1)))
     omega
    .cases h
   .cases h
  .cases h
def Ti(agg:Bool)(ds:List Dt):CV:=match agg,ds with
 |true,ds=>.rv (.agg (ds.map .aa))
 |false,[d]=>.rv (.one (.aa d))
 |false,_=>.aq
theorem JH{agg:Bool}{v:Value}{ds:List Dt}(hr:gg w v.cells.toList ds)(ha:agg=true->∃vs,v= .agg vs)(hn:agg=false->v.oneCell'=true):bW (G1 w) w (Ti agg ds) v:=by
 cases agg with
 |true=>
  obtain⟨vs,rfl⟩:=ha rfl;refine⟨vs.toList,aK,by simpa[Value.cells]using hr.1,fun i c hi=>?_⟩
  rw[O6]at hi;cases hd:ds[i]? with
  |none=>rw[hd]at hi;cases hi
  |some d=>
   rw[hd]at hi;cases hi;have aF:i<vs.toList.length:=by have:=(Hy.1 hd).1;have h1:=hr.1;simp only[Value.cells]at h1;omega
   exact⟨_,tq aF,hr.2 i _ d (tq aF) hd⟩
 |false=>
  have h1:=hn rfl;have hc:v.cells.toList=[v]:=by cases v<;>first|rfl|simp[Value.oneCell']at h1
  rw[hc]at hr
  match ds,hr with
  | [d],hr=>exact hr.2 0 v d rfl rfl
end
end Go.AM
