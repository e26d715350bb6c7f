/- Part 10 of 16. -/
import Derived.Test.YtodckkkbiidffaaGreatDoorG09
import Derived.ChangeArms
import Derived.OpenShut
set_option linter.unusedVariables false
set_option linter.unusedSimpArgs false
set_option maxRecDepth 100000
set_option maxHeartbeats 0
namespace Go.AM
inductive Lf where
 |b
 |i (k:IntKind)
 |s
 |sl (ls:List Lf)
inductive ir:List Lf->List Dt->Prop
 |nil:ir [] []
 |b (x:Bool) {ls:List Lf} {ds:List Dt} (h:ir ls ds):ir (.b::ls) (.val (.bool x)::ds)
 |i (k:IntKind) (n:Int) {ls:List Lf} {ds:List Dt} (hw:(Lit.int k n).wf=true) (h:ir ls ds):ir (.i k::ls) (.val (.int k n)::ds)
 |s (x:ByteArray) {ls:List Lf} {ds:List Dt} (h:ir ls ds):ir (.s::ls) (.val (.string x)::ds)
 |sl (es:List Lf) (elems:List (List Dt)) {ls:List Lf} {ds:List Dt} (he:∀e,e∈elems->ir es e) (h:ir ls ds):ir (.sl es::ls) (.sl es.length elems::ds)
theorem ir.len{ls:List Lf}{ds:List Dt}(h:ir ls ds):ds.length=ls.length:=by
 induction h with
 |nil=>rfl
 |b _ _ ih=>simp[ih]
 |i _ _ _ _ ih=>simp[ih]
 |s _ _ ih=>simp[ih]
 |sl _ _ _ _ _ ih=>simp[ih]
theorem ir.append{ls Zq:List Lf}{ds XU:List Dt}(h:ir ls ds)(h':ir Zq XU):ir (ls++Zq) (ds++XU):=by
 induction h with
 |nil=>exact h'
 |b x _ ih=>exact .b x ih
 |i k n hw _ ih=>exact .i k n hw ih
 |s x _ ih=>exact .s x ih
 |sl es elems he _ _ ih=>exact .sl es elems he ih
mutual
def Dt.size:Dt->Nat
 | .val (.string s)=>s.size+1
 | .val _=>1
 | .sl _ elems=>Dt.dE elems+1
def Dt.fz:List Dt->Nat
 | []=>0
 |d::r=>d.size+Dt.fz r
def Dt.dE:List (List Dt)->Nat
 | []=>0
 |l::r=>Dt.fz l+Dt.dE r
end
theorem Dt.nq:∀(a b:List Dt),Dt.fz (a++b)=Dt.fz a+Dt.fz b
 | [],b=>by simp[Dt.fz]
 |x::r,b=>by simp[Dt.fz,Dt.nq r b];omega
def lF{H:Type}(f:DataW H->Nat):List (DataW H)->Nat
 | []=>0
 |d::r=>f d+lF f r
structure Pi(H:Type) where
 f:DataW H->Nat
 str:∀s,f (.lit (.string s))=s.length+1
 lit:∀l,1<=f (.lit l)
 nil:1<=f .nil
 slice:∀a b,lF f a+lF f b+1<=f (.slice a b)
 agg:∀a,lF f a<=f (.agg a)
def wg(P:Program)(g:TypeId->Option (List Lf)):List Field->Nat->Option (List Lf)
 | [],_=>some []
 |f::r,off=>if f.offset=off then
   match g f.type with
   |some ks=>if P.cellsOf f.type=ks.length then
     match wg P g r (off+ks.length)with
     |some ls=>some (ks++ls)
     |none=>none
    else none
   |none=>none
  else none
def SJ{α:Type}:Nat->List α->List α
 |0,_=>[]
 |n+1,l=>l++SJ n l
def ov(P:Program):Nat->TypeId->Option (List Lf)
 |0,_=>none
 |d+1,t=>match P.underlying t with
  |some .bool=>some [.b]
  |some (.int k)=>some [.i k]
  |some .string=>some [.s]
  |some (.slice e)=>match ov P d e with
   |some ls=>if P.cellsOf e=ls.length/\0<ls.length then some [.sl ls]else none
   |none=>none
  |some (.struct fs)=>match wg P (ov P d) fs.toList 0 with
   |some ls=>if P.cellsOf t=ls.length then some ls else none
   |none=>none
  |some (.array n e)=>match ov P d e with
   |some ls=>if P.cellsOf e=ls.length/\P.cellsOf t=n*ls.length then some (SJ n ls)else none
   |none=>none
  |_=>none
section
variable {H:Type} {enc:TypeId×Value->H} {P:Program} {w:World} {ar:Nat} {spare:Nat->Bool} {held:Bool}
def gQ(w:World)(cs:List Value)(ds:List Dt):Prop:=cs.length=ds.length/\∀(i:Nat)v d,cs[i]? =some v->ds[i]? =some d->c7 (λb=>b<w.heap.size) w d v
theorem gQ.nil:gQ w [] []:=⟨rfl,aC⟩
theorem gQ.one{v:Value}{d:Dt}(h:c7 (λb=>b<w.heap.size) w d v):gQ w [v] [d]:=by
 refine⟨rfl,λi v' d' h1 h2=>?_⟩
 cases i with
 |zero=>simp at h1 h2;subst h1 h2;exact h
 |succ i=>simp at h1
theorem gQ.append{a b:List Value}{x y:List Dt}(h:gQ w a x)(h':gQ w b y):gQ w (a++b) (x++y):=by
 refine⟨by simp[h.1,h'.1],λi v d h1 h2=>?_⟩
 rcases aad i a.length with aD|d7
 .rw[Yf aD]at h1;rw[Yf (by rw[<-h.1];exact aD)]at h2
  exact h.2 i v d h1 h2
 .rw[WH d7]at h1;rw[WH (by rw[<-h.1];exact d7)]at h2
  exact h'.2 _ v d h1 (by rw[h.1];exact h2)
theorem Iv{a:Addr}{v:Value}(h:w.cell? a=some v):a.spot=none:=by
 unfold World.cell? at h;split at h
 .split at h
  .cases h
  .rename_i hs;cases Ap:a.spot with
   |none=>rfl
   |some x=>rw[Ap]at hs;simp at hs
 .cases h
theorem EH(bk:Pi H):∀(d:Nat)(t:TypeId)(ls:List Lf),ov P d t=some ls->∀(fuel:Nat)(cs:List Value)(x:DataW H×List MemPlace),DataW.trod enc P w ar spare held fuel t cs=some x->
  ∃ds,ir ls ds/\gQ w cs ds/\Dt.fz ds<=bk.f x.1:=by
 intro d
 induction d with
 |zero=>intro t ls h;simp[ov]at h
 |succ d ih=>
  intro t ls h fuel cs x hx;simp only[ov]at h;split at h
  .rename_i ht;cases h;obtain⟨b,rfl,rfl⟩:=DataW.trod_bool ht hx;exact⟨[.val (.bool b)],.b b .nil,gQ.one (.val _ rfl),by simpa[Dt.fz,Dt.size]using bk.lit _⟩
  .rename_i k ht;cases h;obtain⟨n,rfl,rfl,hw⟩:=DataW.trod_int ht hx;exact⟨[.val (.int k n)],.i k n hw .nil,gQ.one (.val _ rfl),by simpa[Dt.fz,Dt.size]using bk.lit _⟩
  .rename_i ht;cases h;obtain⟨s,rfl,rfl,hs⟩:=DataW.trod_string ht hx;refine⟨[.val (.string s)],.s s .nil,gQ.one (.val _ rfl),?_⟩;have:s.data.toList.length=s.size:=by rw[abS];rfl
   simp only[Dt.fz,Dt.size,bk.str,this];omega
  .rename_i e ht;split at h
   .rename_i es nX;split at h
    .rename_i hc;cases h;rcases DataW.trod_slice ht hx with⟨rfl,rfl⟩|⟨a,len,cap,elems,rest,n,rfl,rfl,rfl,hb,oh,On,Lz,EI,_,_⟩
     .exact⟨[.sl es.length []],.sl es [] aC .nil,gQ.one (.nil _ none 0 (aaj _)),by simpa[Dt.fz,Dt.size,Dt.dE]using bk.nil⟩
     .have lE:∀i,i<len->∃Cp x0 Ow,w.cells? ar (a.add (i*es.length)) es.length=some Cp/\elems[i]? =some x0/\ir es Ow/\gQ w Cp Ow/\Dt.fz Ow<=bk.f x0.1:=by intro i hi;have h1:=EI i hi;rw[hc.1]at h1;have aD:i<elems.length:=om;rw[uX aD]at h1;obtain⟨Cp,Cq,LA⟩:=N0.1 h1;obtain⟨Ow,f0,r0,s0⟩:=ih e es nX n Cp _ LA;exact⟨Cp,_,Ow,Cq,uX aD,f0,r0,s0⟩
      have mk:∀k,k<=len->∃qn:List (List Dt),qn.length=k/\(∀e,e∈qn->ir es e)/\(∀(i:Nat)Ow,qn[i]? =some Ow->∃Cp,w.cells? ar (a.add (i*es.length)) es.length=some Cp/\gQ w Cp Ow)/\
        Dt.dE qn<=lF bk.f ((elems.take k).map (·.1)):=by
       intro k
       induction k with
       |zero=>intro _;exact⟨[],rfl,aC,aC,by simp[Dt.dE]⟩
       |succ k Zr=>
        intro hk;obtain⟨qn,h1,h2,h3,h4⟩:=Zr om;obtain⟨Cp,x0,Ow,Cq,Vj,f0,r0,s0⟩:=lE k om;refine⟨qn++ [Ow],by simp[h1],λe he=>?_,λi XU hi=>?_,?_⟩
        .rcases abD.1 he with he|he
         .exact h2 e he
         .simp at he;subst he;exact f0
        .rcases acO i k with aD|rfl|hgt
         .rw[Yf om]at hi;exact h3 i XU hi
         .rw[WH om,h1]at hi;simp at hi;subst hi;exact⟨Cp,Cq,r0⟩
         .rw[WH om,h1,show i-k=(i-k-1)+1 by omega]at hi
          simp at hi
        .have zY:elems.take (k+1)=elems.take k++ [x0]:=by rw[abI,Vj];rfl
         have Zs:∀(p q:List (DataW H)),lF bk.f (p++q)=lF bk.f p+lF bk.f q:=by
          intro p
          induction p with
          |nil=>intro q;simp[lF]
          |cons y r Zt=>intro q;simp[lF,Zt q];omega
         have hLL:∀(p q:List (List Dt)),Dt.dE (p++q)=Dt.dE p+Dt.dE q:=by
          intro p
          induction p with
          |nil=>intro q;simp[Dt.dE]
          |cons y r Zt=>intro q;simp[Dt.dE,Zt q];omega
         rw[zY,abw,Zs,hLL];simp only[aa9,acX,lF,Dt.dE];omega
      obtain⟨qn,h1,h2,h3,h4⟩:=mk len (Ts _);refine⟨[.sl es.length qn],.sl es qn h2 .nil,gQ.one ?_,?_⟩
      .rcases abu len with h0|cH
       .subst h0;rw[aag h1];exact .nil _ _ _ On
       .have h0:=h3 0 qn[0] (uX om);obtain⟨Cp,Cq,hr0⟩:=h0;obtain⟨HZ,XP,Aq⟩:=World.cells?_some Cq;have Ap:a.spot=none:=by
         have h5:=Aq 0 hc.2;have hz:((a.add (0*es.length)).add 0)=a:=by simp[Addr.add]
         rw[hz]at h5;have aD:0<Cp.length:=om;rw[uX aD]at h5;exact Iv h5
        have hblk:a.block<w.heap.size:=by
         have:=World.cells?_block Cq hc.2;have hz:(a.add (0*es.length))=a:=by simp[Addr.add]
         rw[hz]at this;exact this
        have Si:∀i j,((a.add (i*es.length)).add j)=⟨a.block,a.off+i*es.length+j,none⟩:=by
         intro i j;obtain⟨ab,ao,asp⟩:=a;simp only at Ap;subst Ap;unfold Addr.add;split<;>split<;>simp_all
        rw[<-h1];have ea:a=⟨a.block,a.off,none⟩:=by obtain⟨ab,ao,asp⟩:=a;simp only at Ap;subst Ap;rfl
        rw[ea];have key:∀(i:Nat)eR(j:Nat)d',qn[i]? =some eR->eR[j]? =some d'->∃u,w.cell? ⟨a.block,a.off+i*es.length+j,none⟩=some u/\c7 (λb=>b<w.heap.size) w d' u:=by
         intro i eR j d' hi hj;obtain⟨cs1,VT,rC⟩:=h3 i eR hi;obtain⟨_,yB,Ar⟩:=World.cells?_some VT;have d8:j<cs1.length:=by rw[rC.1];exact(I4.1 hj).1
         have h6:=Ar j om;rw[Si,uX d8]at h6;exact⟨_,h6,rC.2 j _ d' (uX d8) hj⟩
        refine c7.sl es.length qn a.block a.off cap (λi j=>(w.cell? ⟨a.block,a.off+i*es.length+j,none⟩).getD Go.undef) hblk om On (λeR KX=>(h2 eR KX).len)
         (λi eR j d' hi hj=>by obtain⟨u,hu,_⟩:=key i eR j d' hi hj;rw[hu];rfl)
         (λi eR j d' hi hj=>by obtain⟨u,hu,hd⟩:=key i eR j d' hi hj;rw[hu];exact hd)
      .have h5:=bk.slice (elems.map (·.1)) (rest.map (·.1))
       have h6:elems.take len=elems:=abN om;rw[h6]at h4;simp only[Dt.fz,Dt.size];omega
    .cases h
   .cases h
  .rename_i fs ht;obtain⟨xs,n,rfl,rfl,hl,hlen,hf⟩:=DataW.trod_struct ht hx;have go:∀(l:List Field)(k off:Nat)(ls:List Lf),fs.toList.drop k=l->wg P (ov P d) l off=some ls->cs.length=off+ls.length->∃ds,ir ls ds/\gQ w (cs.drop off) ds/\Dt.fz ds<=lF bk.f ((xs.drop k).map (·.1)):=by
    intro l
    induction l with
    |nil=>
     intro k off ls _ sV ib;simp only[wg]at sV;cases sV;refine⟨[],.nil,?_,by simp[Dt.fz]⟩
     have:cs.drop off=[]:=acQ (by simp at ib;omega)
     rw[this];exact gQ.nil
    |cons f r ihl=>
     intro k off ls hk sV ib;simp only[wg]at sV;split at sV
     .rename_i EB;split at sV
      .rename_i ks Ot;split at sV
       .rename_i hck;split at sV
        .rename_i rs SI;cases sV;have VU:fs[k]? =some f:=by
          have:(fs.toList.drop k)[0]? =some f:=by rw[hk];rfl
          simpa using this
         have hr:fs.toList.drop (k+1)=r:=by rw[<-List.tail_drop,hk];rfl
         have LB:k<xs.length:=by rw[hlen];exact(aap.1 VU).1
         have LA:=hf k f VU;rw[EB,hck,uX LB]at LA;obtain⟨XV,f1,r1,s1⟩:=ih f.type ks Ot n _ _ LA;rw[aba]at ib;obtain⟨Zu,f2,r2,s2⟩:=ihl (k+1) (off+ks.length) rs hr SI om;refine⟨XV++Zu,f1.append f2,?_,?_⟩
         .have:cs.drop off=(cs.drop off).take ks.length++cs.drop (off+ks.length):=by rw[<-List.drop_drop,ace]
          rw[this];exact r1.append r2
         .rw[Dt.nq,acC LB];simp only[aa9,lF];omega
        .cases sV
       .cases sV
      .cases sV
     .cases sV
   split at h
   .rename_i Zq sV;split at h
    .rename_i hc;cases h;obtain⟨ds,f1,r1,s1⟩:=go fs.toList 0 0 _ aC sV om;refine⟨ds,f1,by simpa using r1,?_⟩
     have:=bk.agg (xs.map (·.1))
     simp only[acI]at s1;show _<=bk.f (DataW.agg (xs.map (·.1)))
     omega
    .cases h
   .cases h
  .rename_i n e ht;split at h
   .rename_i es nX;split at h
    .rename_i hc;cases h;obtain⟨xs,m,rfl,rfl,hl,hlen,EI⟩:=DataW.trod_array ht hx;have go:∀(k i:Nat),i+k=n->∃ds,ir (SJ k es) ds/\gQ w (cs.drop (i*es.length)) ds/\Dt.fz ds<=lF bk.f ((xs.drop i).map (·.1)):=by
      intro k
      induction k with
      |zero=>
       intro i hi;refine⟨[],.nil,?_,by simp[Dt.fz]⟩
       have:cs.drop (i*es.length)=[]:=acQ (by rw[hl,hc.2,show i=n by omega];exact Ts _)
       rw[this];exact gQ.nil
      |succ k Zr=>
       intro i hi;have LA:=EI i om;have VV:i<xs.length:=om;rw[hc.1,uX VV]at LA;obtain⟨XV,f1,r1,s1⟩:=ih e es nX m _ _ LA;obtain⟨Zu,f2,r2,s2⟩:=Zr (i+1) om;refine⟨XV++Zu,f1.append f2,?_,?_⟩
       .have:cs.drop (i*es.length)=(cs.drop (i*es.length)).take es.length++cs.drop ((i+1)*es.length):=by rw[abr,abZ,<-List.drop_drop,ace]
        rw[this];exact r1.append r2
       .rw[Dt.nq,acC VV];simp only[aa9,lF];omega
     obtain⟨ds,f1,r1,s1⟩:=go n 0 om;refine⟨ds,f1,by simpa using r1,?_⟩
     have:=bk.agg (xs.map (·.1))
     simp only[acI]at s1;show _<=bk.f (DataW.agg (xs.map (·.1)))
     omega
    .cases h
   .cases h
  .cases h
def VW(agg:Bool)(ds:List Dt):CV:=match agg,ds with
 |true,ds=>.rv (.agg (ds.map .aa))
 |false,[d]=>.rv (.one (.aa d))
 |false,_=>.ap
theorem LD{agg:Bool}{v:Value}{ds:List Dt}(hr:gQ w v.cells.toList ds)(ha:agg=true->∃vs,v= .agg vs)(hn:agg=false->v.oneCell'=true):bZ (Iu w) w (VW agg ds) v:=by
 cases agg with
 |true=>
  obtain⟨vs,rfl⟩:=ha rfl;refine⟨vs.toList,aC,by simpa[Value.cells]using hr.1,λi c hi=>?_⟩
  rw[RA]at hi;cases hd:ds[i]? with
  |none=>rw[hd]at hi;cases hi
  |some d=>
   rw[hd]at hi;cases hi;have aD:i<vs.toList.length:=by have:=(I4.1 hd).1;have h1:=hr.1;simp only[Value.cells]at h1;omega
   exact⟨_,uX aD,hr.2 i _ d (uX aD) hd⟩
 |false=>
  have h1:=hn rfl;have hc:v.cells.toList=[v]:=by cases v<;>first|rfl|simp[Value.oneCell']at h1
  rw[hc]at hr
  match ds,hr with
  | [d],hr=>exact hr.2 0 v d rfl rfl
end
end Go.AM
