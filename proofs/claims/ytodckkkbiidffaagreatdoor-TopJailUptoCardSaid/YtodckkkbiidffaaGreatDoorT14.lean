/- Part 14 of 39: what the law stands on. -/
import Derived.Test.YtodckkkbiidffaaGreatDoorT13
import Derived.ChangeArms
import Derived.OpenShut
set_option linter.unusedVariables false
set_option linter.unusedSimpArgs false
set_option linter.unnecessarySimpa false
set_option maxRecDepth 100000
set_option maxHeartbeats 64000000
namespace Go.AM
inductive Lf where
 |b
 |i (k:IntKind)
 |s
 |sl (ls:List Lf)
inductive i7:List Lf->List Dt->Prop
 |nil:i7 [] []
 |b (x:Bool) {ls:List Lf} {ds:List Dt} (h:i7 ls ds):i7 (.b::ls) (.val (.bool x)::ds)
 |i (k:IntKind) (n:Int) {ls:List Lf} {ds:List Dt} (hw:(Lit.int k n).wf=true) (h:i7 ls ds):i7 (.i k::ls) (.val (.int k n)::ds)
 |s (x:ByteArray) {ls:List Lf} {ds:List Dt} (h:i7 ls ds):i7 (.s::ls) (.val (.string x)::ds)
 |sl (es:List Lf) (elems:List (List Dt)) {ls:List Lf} {ds:List Dt} (he:∀e,e∈elems->i7 es e) (h:i7 ls ds):i7 (.sl es::ls) (.sl es.length elems::ds)
theorem i7.len{ls:List Lf}{ds:List Dt}(h:i7 ls ds):ds.length=ls.length:=by
 induction h with
 |nil=>rfl
 |b _ _ ih=>simp[ih]
 |i _ _ _ _ ih=>simp[ih]
 |s _ _ ih=>simp[ih]
 |sl _ _ _ _ _ ih=>simp[ih]
theorem i7.append{ls Vs:List Lf}{ds TZ:List Dt}(h:i7 ls ds)(h':i7 Vs TZ):i7 (ls++Vs) (ds++TZ):=by
 induction h with
 |nil=>exact h'
 |b x _ ih=>exact .b x ih
 |i k n hw _ ih=>exact .i k n hw ih
 |s x _ ih=>exact .s x ih
 |sl es elems he _ _ ih=>exact .sl es elems he ih
mutual
def Dt.size:Dt->Nat
 | .val (.string s)=>s.size+1
 | .val _=>1
 | .sl _ elems=>Dt.fo elems+1
def Dt.gj:List Dt->Nat
 | []=>0
 |d::r=>d.size+Dt.gj r
def Dt.fo:List (List Dt)->Nat
 | []=>0
 |l::r=>Dt.gj l+Dt.fo r
end
theorem Dt.lK:∀(a b:List Dt),Dt.gj (a++b)=Dt.gj a+Dt.gj b
 | [],b=>by simp[Dt.gj]
 |x::r,b=>by simp[Dt.gj,Dt.lK r b];omega
def jS{H:Type}(f:DataW H->Nat):List (DataW H)->Nat
 | []=>0
 |d::r=>f d+jS f r
structure Lx(H:Type) where
 f:DataW H->Nat
 str:∀s,f (.lit (.string s))=s.length+1
 lit:∀l,1<=f (.lit l)
 nil:1<=f .nil
 slice:∀a b,jS f a+jS f b+1<=f (.slice a b)
 agg:∀a,jS f a<=f (.agg a)
def tK(P:Program)(g:TypeId->Option (List Lf)):List Field->Nat->Option (List Lf)
 | [],_=>some []
 |f::r,off=>if f.offset=off then
   match g f.type with
   |some ks=>if P.cellsOf f.type=ks.length then
     match tK P g r (off+ks.length)with
     |some ls=>some (ks++ls)
     |none=>none
    else none
   |none=>none
  else none
def ON{α:Type}:Nat->List α->List α
 |0,_=>[]
 |n+1,l=>l++ON n l
def mQ(P:Program):Nat->TypeId->Option (List Lf)
 |0,_=>none
 |d+1,t=>match P.underlying t with
  |some .bool=>some [.b]
  |some (.int k)=>some [.i k]
  |some .string=>some [.s]
  |some (.slice e)=>match mQ P d e with
   |some ls=>if P.cellsOf e=ls.length/\0<ls.length then some [.sl ls]else none
   |none=>none
  |some (.struct fs)=>match tK P (mQ P d) fs.toList 0 with
   |some ls=>if P.cellsOf t=ls.length then some ls else none
   |none=>none
  |some (.array n e)=>match mQ P d e with
   |some ls=>if P.cellsOf e=ls.length/\P.cellsOf t=n*ls.length then some (ON n ls)else none
   |none=>none
  |_=>none
section
variable {H:Type} {enc:TypeId×Value->H} {P:Program} {w:World} {au:Nat} {spare:Nat->Bool} {held:Bool}
def fS(w:World)(cs:List Value)(ds:List Dt):Prop:=cs.length=ds.length/\∀(i:Nat)v d,cs[i]? =some v->ds[i]? =some d->cZ (fun b=>b<w.heap.size) w d v
theorem fS.nil:fS w [] []:=⟨rfl,aI⟩
theorem fS.one{v:Value}{d:Dt}(h:cZ (fun b=>b<w.heap.size) w d v):fS w [v] [d]:=by
 refine⟨rfl,fun i v' d' h1 h2=>?_⟩
 cases i with
 |zero=>simp at h1 h2;subst h1 h2;exact h
 |succ i=>simp at h1
theorem fS.append{a b:List Value}{x y:List Dt}(h:fS w a x)(h':fS w b y):fS w (a++b) (x++y):=by
 refine⟨by simp[h.1,h'.1],fun i v d h1 h2=>?_⟩
 rcases Wj i a.length with aE|eu
 .rw[Tz aE]at h1;rw[Tz (by rw[<-h.1];exact aE)]at h2
  exact h.2 i v d h1 h2
 .rw[SF eu]at h1;rw[SF (by rw[<-h.1];exact eu)]at h2
  exact h'.2 _ v d h1 (by rw[h.1];exact h2)
theorem FH{a:Addr}{v:Value}(h:w.cell? a=some v):a.spot=none:=by
 unfold World.cell? at h;split at h
 .split at h
  .cases h
  .rename_i hs;cases xx:a.spot with
   |none=>rfl
   |some x=>rw[xx]at hs;simp at hs
 .cases h
theorem B2(bk:Lx H):∀(d:Nat)(t:TypeId)(ls:List Lf),mQ P d t=some ls->∀(fuel:Nat)(cs:List Value)(x:DataW H×List MemPlace),DataW.trod enc P w au spare held fuel t cs=some x->
  ∃ds,i7 ls ds/\fS w cs ds/\Dt.gj ds<=bk.f x.1:=by
 intro d
 induction d with
 |zero=>intro t ls h;simp[mQ]at h
 |succ d ih=>
  intro t ls h fuel cs x hx;simp only[mQ]at h;split at h
  .rename_i ht;cases h;obtain⟨b,rfl,rfl⟩:=DataW.trod_bool ht hx;exact⟨[.val (.bool b)],.b b .nil,fS.one (.val _ rfl),by simpa[Dt.gj,Dt.size]using bk.lit _⟩
  .rename_i k ht;cases h;obtain⟨n,rfl,rfl,hw⟩:=DataW.trod_int ht hx;exact⟨[.val (.int k n)],.i k n hw .nil,fS.one (.val _ rfl),by simpa[Dt.gj,Dt.size]using bk.lit _⟩
  .rename_i ht;cases h;obtain⟨s,rfl,rfl,hs⟩:=DataW.trod_string ht hx;refine⟨[.val (.string s)],.s s .nil,fS.one (.val _ rfl),?_⟩;have:s.data.toList.length=s.size:=by rw[aaZ];rfl
   simp only[Dt.gj,Dt.size,bk.str,this];omega
  .rename_i e ht;split at h
   .rename_i es nD;split at h
    .rename_i hc;cases h;rcases DataW.trod_slice ht hx with⟨rfl,rfl⟩|⟨a,len,cap,elems,rest,n,rfl,rfl,rfl,hb,pY,TO,Im,FI,_,_⟩
     .exact⟨[.sl es.length []],.sl es [] aI .nil,fS.one (.nil _ none 0 (Wi _)),by simpa[Dt.gj,Dt.size,Dt.fo]using bk.nil⟩
     .have jR:∀i,i<len->∃yP x0 KU,w.cells? au (a.add (i*es.length)) es.length=some yP/\elems[i]? =some x0/\i7 es KU/\fS w yP KU/\Dt.gj KU<=bk.f x0.1:=by intro i hi;have h1:=FI i hi;rw[hc.1]at h1;have aE:i<elems.length:=om;rw[sA aE]at h1;obtain⟨yP,zA,In⟩:=Jm.1 h1;obtain⟨KU,f0,r0,s0⟩:=ih e es nD n yP _ In;exact⟨yP,_,KU,zA,sA aE,f0,r0,s0⟩
      have mk:∀k,k<=len->∃ot:List (List Dt),ot.length=k/\(∀e,e∈ot->i7 es e)/\(∀(i:Nat)KU,ot[i]? =some KU->∃yP,w.cells? au (a.add (i*es.length)) es.length=some yP/\fS w yP KU)/\
        Dt.fo ot<=jS bk.f ((elems.take k).map (·.1)):=by
       intro k
       induction k with
       |zero=>intro _;exact⟨[],rfl,aI,aI,by simp[Dt.fo]⟩
       |succ k Vt=>
        intro hk;obtain⟨ot,h1,h2,h3,h4⟩:=Vt om;obtain⟨yP,x0,KU,zA,Q8,f0,r0,s0⟩:=jR k om;refine⟨ot++ [KU],by simp[h1],fun e he=>?_,fun i TZ hi=>?_,?_⟩
        .rcases aaN.1 he with he|he
         .exact h2 e he
         .simp at he;subst he;exact f0
        .rcases abI i k with aE|rfl|XQ
         .rw[Tz om]at hi;exact h3 i TZ hi
         .rw[SF om,h1]at hi;simp at hi;subst hi;exact⟨yP,zA,r0⟩
         .rw[SF om,h1,show i-k=(i-k-1)+1 by omega]at hi
          simp at hi
        .have xe:elems.take (k+1)=elems.take k++ [x0]:=by rw[aaM,Q8];rfl
         have Vu:∀(p q:List (DataW H)),jS bk.f (p++q)=jS bk.f p+jS bk.f q:=by
          intro p
          induction p with
          |nil=>intro q;simp[jS]
          |cons y r Vv=>intro q;simp[jS,Vv q];omega
         have Zp:∀(p q:List (List Dt)),Dt.fo (p++q)=Dt.fo p+Dt.fo q:=by
          intro p
          induction p with
          |nil=>intro q;simp[Dt.fo]
          |cons y r Vv=>intro q;simp[Dt.fo,Vv q];omega
         rw[xe,aav,Vu,Zp];simp only[aar,abE,jS,Dt.fo];omega
      obtain⟨ot,h1,h2,h3,h4⟩:=mk len (Pq _);refine⟨[.sl es.length ot],.sl es ot h2 .nil,fS.one ?_,?_⟩
      .rcases aap len with h0|dd
       .subst h0;rw[Wg h1];exact .nil _ _ _ TO
       .have h0:=h3 0 ot[0] (sA om);obtain⟨yP,zA,XO⟩:=h0;obtain⟨va,TU,xy⟩:=World.cells?_some zA;have xx:a.spot=none:=by
         have h5:=xy 0 hc.2;have hz:((a.add (0*es.length)).add 0)=a:=by simp[Addr.add]
         rw[hz]at h5;have aE:0<yP.length:=om;rw[sA aE]at h5;exact FH h5
        have hblk:a.block<w.heap.size:=by
         have:=World.cells?_block zA hc.2;have hz:(a.add (0*es.length))=a:=by simp[Addr.add]
         rw[hz]at this;exact this
        have Ov:∀i j,((a.add (i*es.length)).add j)=⟨a.block,a.off+i*es.length+j,none⟩:=by
         intro i j;obtain⟨ab,ao,Zq⟩:=a;simp only at xx;subst xx;unfold Addr.add;split<;>split<;>simp_all
        rw[<-h1];have ea:a=⟨a.block,a.off,none⟩:=by obtain⟨ab,ao,Zq⟩:=a;simp only at xx;subst xx;rfl
        rw[ea];have key:∀(i:Nat)ef(j:Nat)d',ot[i]? =some ef->ef[j]? =some d'->∃u,w.cell? ⟨a.block,a.off+i*es.length+j,none⟩=some u/\cZ (fun b=>b<w.heap.size) w d' u:=by
         intro i ef j d' hi hj;obtain⟨Zr,RJ,yQ⟩:=h3 i ef hi;obtain⟨_,y8,xz⟩:=World.cells?_some RJ;have dL:j<Zr.length:=by rw[yQ.1];exact(Gf.1 hj).1
         have h6:=xz j om;rw[Ov,sA dL]at h6;exact⟨_,h6,yQ.2 j _ d' (sA dL) hj⟩
        refine cZ.sl es.length ot a.block a.off cap (fun i j=>(w.cell? ⟨a.block,a.off+i*es.length+j,none⟩).getD Go.undef) hblk om TO (fun ef HU=>(h2 ef HU).len)
         (fun i ef j d' hi hj=>by obtain⟨u,hu,_⟩:=key i ef j d' hi hj;rw[hu];rfl)
         (fun i ef j d' hi hj=>by obtain⟨u,hu,hd⟩:=key i ef j d' hi hj;rw[hu];exact hd)
      .have h5:=bk.slice (elems.map (·.1)) (rest.map (·.1))
       have h6:elems.take len=elems:=aaR om;rw[h6]at h4;simp only[Dt.gj,Dt.size];omega
    .cases h
   .cases h
  .rename_i fs ht;obtain⟨xs,n,rfl,rfl,hl,hlen,hf⟩:=DataW.trod_struct ht hx;have go:∀(l:List Field)(k off:Nat)(ls:List Lf),fs.toList.drop k=l->tK P (mQ P d) l off=some ls->cs.length=off+ls.length->∃ds,i7 ls ds/\fS w (cs.drop off) ds/\Dt.gj ds<=jS bk.f ((xs.drop k).map (·.1)):=by
    intro l
    induction l with
    |nil=>
     intro k off ls _ qa gT;simp only[tK]at qa;cases qa;refine⟨[],.nil,?_,by simp[Dt.gj]⟩
     have:cs.drop off=[]:=abL (by simp at gT;omega)
     rw[this];exact fS.nil
    |cons f r Zs=>
     intro k off ls hk qa gT;simp only[tK]at qa;split at qa
     .rename_i BV;split at qa
      .rename_i ks RK;split at qa
       .rename_i Zt;split at qa
        .rename_i rs OM;cases qa;have RL:fs[k]? =some f:=by
          have:(fs.toList.drop k)[0]? =some f:=by rw[hk];rfl
          simpa using this
         have hr:fs.toList.drop (k+1)=r:=by rw[<-List.tail_drop,hk];rfl
         have Io:k<xs.length:=by rw[hlen];exact(Z4.1 RL).1
         have In:=hf k f RL;rw[BV,Zt,sA Io]at In;obtain⟨T0,f1,r1,s1⟩:=ih f.type ks RK n _ _ In;rw[aaH]at gT;obtain⟨Vw,f2,r2,s2⟩:=Zs (k+1) (off+ks.length) rs hr OM om;refine⟨T0++Vw,f1.append f2,?_,?_⟩
         .have:cs.drop off=(cs.drop off).take ks.length++cs.drop (off+ks.length):=by rw[<-List.drop_drop,abQ]
          rw[this];exact r1.append r2
         .rw[Dt.lK,aby Io];simp only[aar,jS];omega
        .cases qa
       .cases qa
      .cases qa
     .cases qa
   split at h
   .rename_i Vs qa;split at h
    .rename_i hc;cases h;obtain⟨ds,f1,r1,s1⟩:=go fs.toList 0 0 _ aI qa om;refine⟨ds,f1,by simpa using r1,?_⟩
     have:=bk.agg (xs.map (·.1))
     simp only[abt]at s1;show _<=bk.f (DataW.agg (xs.map (·.1)))
     omega
    .cases h
   .cases h
  .rename_i n e ht;split at h
   .rename_i es nD;split at h
    .rename_i hc;cases h;obtain⟨xs,m,rfl,rfl,hl,hlen,FI⟩:=DataW.trod_array ht hx;have go:∀(k i:Nat),i+k=n->∃ds,i7 (ON k es) ds/\fS w (cs.drop (i*es.length)) ds/\Dt.gj ds<=jS bk.f ((xs.drop i).map (·.1)):=by
      intro k
      induction k with
      |zero=>
       intro i hi;refine⟨[],.nil,?_,by simp[Dt.gj]⟩
       have:cs.drop (i*es.length)=[]:=abL (by rw[hl,hc.2,show i=n by omega];exact Pq _)
       rw[this];exact fS.nil
      |succ k Vt=>
       intro i hi;have In:=FI i om;have RM:i<xs.length:=om;rw[hc.1,sA RM]at In;obtain⟨T0,f1,r1,s1⟩:=ih e es nD m _ _ In;obtain⟨Vw,f2,r2,s2⟩:=Vt (i+1) om;refine⟨T0++Vw,f1.append f2,?_,?_⟩
       .have:cs.drop (i*es.length)=(cs.drop (i*es.length)).take es.length++cs.drop ((i+1)*es.length):=by rw[aas,aaY,<-List.drop_drop,abQ]
        rw[this];exact r1.append r2
       .rw[Dt.lK,aby RM];simp only[aar,jS];omega
     obtain⟨ds,f1,r1,s1⟩:=go n 0 om;refine⟨ds,f1,by simpa using r1,?_⟩
     have:=bk.agg (xs.map (·.1))
     simp only[abt]at s1;show _<=bk.f (DataW.agg (xs.map (·.1)))
     omega
    .cases h
   .cases h
  .cases h
def RN(agg:Bool)(ds:List Dt):CV:=match agg,ds with
 |true,ds=>.rv (.agg (ds.map .aa))
 |false,[d]=>.rv (.one (.aa d))
 |false,_=>.ar
theorem Ip{agg:Bool}{v:Value}{ds:List Dt}(hr:fS w v.cells.toList ds)(ha:agg=true->∃vs,v= .agg vs)(hn:agg=false->v.oneCell'=true):bV (FG w) w (RN agg ds) v:=by
 cases agg with
 |true=>
  obtain⟨vs,rfl⟩:=ha rfl;refine⟨vs.toList,aI,by simpa[Value.cells]using hr.1,fun i c hi=>?_⟩
  rw[NO]at hi;cases hd:ds[i]? with
  |none=>rw[hd]at hi;cases hi
  |some d=>
   rw[hd]at hi;cases hi;have aE:i<vs.toList.length:=by have:=(Gf.1 hd).1;have h1:=hr.1;simp only[Value.cells]at h1;omega
   exact⟨_,sA aE,hr.2 i _ d (sA aE) hd⟩
 |false=>
  have h1:=hn rfl;have hc:v.cells.toList=[v]:=by cases v<;>first|rfl|simp[Value.oneCell']at h1
  rw[hc]at hr
  match ds,hr with
  | [d],hr=>exact hr.2 0 v d rfl rfl
end
end Go.AM
