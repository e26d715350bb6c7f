/- Part 9 of 18. -/
import Derived.Test.YtojhmadmlnfpcaaGreatDoorS08
import Derived.ChangeArms
import Derived.OpenShut
set_option linter.unusedVariables false
set_option linter.unusedSimpArgs false
set_option linter.unnecessarySimpa false
set_option maxRecDepth 100000
set_option maxHeartbeats 0
namespace Go.AM
inductive Lf where
 |b
 |i (k:IntKind)
 |s
 |sl (ls:List Lf)
inductive ig:List Lf->List Dt->Prop
 |nil:ig [] []
 |b (x:Bool) {ls:List Lf} {ds:List Dt} (h:ig ls ds):ig (.b::ls) (.val (.bool x)::ds)
 |i (k:IntKind) (n:Int) {ls:List Lf} {ds:List Dt} (hw:(Lit.int k n).wf=true) (h:ig ls ds):ig (.i k::ls) (.val (.int k n)::ds)
 |s (x:ByteArray) {ls:List Lf} {ds:List Dt} (h:ig ls ds):ig (.s::ls) (.val (.string x)::ds)
 |sl (es:List Lf) (elems:List (List Dt)) {ls:List Lf} {ds:List Dt} (he:∀e,e∈elems->ig es e) (h:ig ls ds):ig (.sl es::ls) (.sl es.length elems::ds)
theorem ig.len{ls:List Lf}{ds:List Dt}(h:ig ls ds):ds.length=ls.length:=by
 induction h with
 |nil=>rfl
 |b _ _ ih=>simp[ih]
 |i _ _ _ _ ih=>simp[ih]
 |s _ _ ih=>simp[ih]
 |sl _ _ _ _ _ ih=>simp[ih]
theorem ig.append{ls Y7:List Lf}{ds XL:List Dt}(h:ig ls ds)(h':ig Y7 XL):ig (ls++Y7) (ds++XL):=by
 induction h with
 |nil=>exact h'
 |b x _ ih=>exact .b x ih
 |i k n hw _ ih=>exact .i k n hw ih
 |s x _ ih=>exact .s x ih
 |sl es elems he _ _ ih=>exact .sl es elems he ih
mutual
def Dt.size:Dt->Nat
 | .val (.string s)=>s.size+1
 | .val _=>1
 | .sl _ elems=>Dt.dE elems+1
def Dt.fB:List Dt->Nat
 | []=>0
 |d::r=>d.size+Dt.fB r
def Dt.dE:List (List Dt)->Nat
 | []=>0
 |l::r=>Dt.fB l+Dt.dE r
end
theorem Dt.mT:∀(a b:List Dt),Dt.fB (a++b)=Dt.fB a+Dt.fB b
 | [],b=>by simp[Dt.fB]
 |x::r,b=>by simp[Dt.fB,Dt.mT r b];omega
def li{H:Type}(f:DataW H->Nat):List (DataW H)->Nat
 | []=>0
 |d::r=>f d+li f r
structure OC(H:Type) where
 f:DataW H->Nat
 str:∀s,f (.lit (.string s))=s.length+1
 lit:∀l,1<=f (.lit l)
 nil:1<=f .nil
 slice:∀a b,li f a+li f b+1<=f (.slice a b)
 agg:∀a,li f a<=f (.agg a)
def vu(P:Program)(g:TypeId->Option (List Lf)):List Field->Nat->Option (List Lf)
 | [],_=>some []
 |f::r,off=>if f.offset=off then
   match g f.type with
   |some ks=>if P.cellsOf f.type=ks.length then
     match vu P g r (off+ks.length)with
     |some ls=>some (ks++ls)
     |none=>none
    else none
   |none=>none
  else none
def Sa{α:Type}:Nat->List α->List α
 |0,_=>[]
 |n+1,l=>l++Sa n l
def n8(P:Program):Nat->TypeId->Option (List Lf)
 |0,_=>none
 |d+1,t=>match P.underlying t with
  |some .bool=>some [.b]
  |some (.int k)=>some [.i k]
  |some .string=>some [.s]
  |some (.slice e)=>match n8 P d e with
   |some ls=>if P.cellsOf e=ls.length/\0<ls.length then some [.sl ls]else none
   |none=>none
  |some (.struct fs)=>match vu P (n8 P d) fs.toList 0 with
   |some ls=>if P.cellsOf t=ls.length then some ls else none
   |none=>none
  |some (.array n e)=>match n8 P d e with
   |some ls=>if P.cellsOf e=ls.length/\P.cellsOf t=n*ls.length then some (Sa n ls)else none
   |none=>none
  |_=>none
section
variable {H:Type} {enc:TypeId×Value->H} {P:Program} {w:World} {aA:Nat} {spare:Nat->Bool} {held:Bool}
def gE(w:World)(cs:List Value)(ds:List Dt):Prop:=cs.length=ds.length/\∀(i:Nat)v d,cs[i]? =some v->ds[i]? =some d->dv (fun b=>b<w.heap.size) w d v
theorem gE.nil:gE w [] []:=⟨rfl,aG⟩
theorem gE.one{v:Value}{d:Dt}(h:dv (fun b=>b<w.heap.size) w d v):gE w [v] [d]:=by
 refine⟨rfl,fun i v' d' h1 h2=>?_⟩
 cases i with
 |zero=>simp at h1 h2;subst h1 h2;exact h
 |succ i=>simp at h1
theorem gE.append{a b:List Value}{x y:List Dt}(h:gE w a x)(h':gE w b y):gE w (a++b) (x++y):=by
 refine⟨by simp[h.1,h'.1],fun i v d h1 h2=>?_⟩
 rcases ZX i a.length with aB|ew
 .rw[ZY aB]at h1;rw[ZY (by rw[<-h.1];exact aB)]at h2
  exact h.2 i v d h1 h2
 .rw[ZW ew]at h1;rw[ZW (by rw[<-h.1];exact ew)]at h2
  exact h'.2 _ v d h1 (by rw[h.1];exact h2)
theorem H5{a:Addr}{v:Value}(h:w.cell? a=some v):a.spot=none:=by
 unfold World.cell? at h;split at h
 .split at h
  .cases h
  .rename_i hs;cases zw:a.spot with
   |none=>rfl
   |some x=>rw[zw]at hs;simp at hs
 .cases h
theorem D1(bk:OC H):∀(d:Nat)(t:TypeId)(ls:List Lf),n8 P d t=some ls->∀(fuel:Nat)(cs:List Value)(x:DataW H×List MemPlace),DataW.trod enc P w aA spare held fuel t cs=some x->
  ∃ds,ig ls ds/\gE w cs ds/\Dt.fB ds<=bk.f x.1:=by
 intro d
 induction d with
 |zero=>intro t ls h;simp[n8]at h
 |succ d ih=>
  intro t ls h fuel cs x hx;simp only[n8]at h;split at h
  .rename_i ht;cases h;obtain⟨b,rfl,rfl⟩:=DataW.trod_bool ht hx;exact⟨[.val (.bool b)],.b b .nil,gE.one (.val _ rfl),by simpa[Dt.fB,Dt.size]using bk.lit _⟩
  .rename_i k ht;cases h;obtain⟨n,rfl,rfl,hw⟩:=DataW.trod_int ht hx;exact⟨[.val (.int k n)],.i k n hw .nil,gE.one (.val _ rfl),by simpa[Dt.fB,Dt.size]using bk.lit _⟩
  .rename_i ht;cases h;obtain⟨s,rfl,rfl,hs⟩:=DataW.trod_string ht hx;refine⟨[.val (.string s)],.s s .nil,gE.one (.val _ rfl),?_⟩;have:s.data.toList.length=s.size:=by rw[ab9];rfl
   simp only[Dt.fB,Dt.size,bk.str,this];omega
  .rename_i e ht;split at h
   .rename_i es nV;split at h
    .rename_i hc;cases h;rcases DataW.trod_slice ht hx with⟨rfl,rfl⟩|⟨a,len,cap,elems,rest,n,rfl,rfl,rfl,hb,rP,XB,JU,Da,_,_⟩
     .exact⟨[.sl es.length []],.sl es [] aG .nil,gE.one (.nil _ none 0 (Wi _)),by simpa[Dt.fB,Dt.size,Dt.dE]using bk.nil⟩
     .have lh:∀i,i<len->∃AV x0 N0,w.cells? aA (a.add (i*es.length)) es.length=some AV/\elems[i]? =some x0/\ig es N0/\gE w AV N0/\Dt.fB N0<=bk.f x0.1:=by intro i hi;have h1:=Da i hi;rw[hc.1]at h1;have aB:i<elems.length:=om;rw[IE aB]at h1;obtain⟨AV,BB,KZ⟩:=Q6.1 h1;obtain⟨N0,f0,r0,s0⟩:=ih e es nV n AV _ KZ;exact⟨AV,_,N0,BB,IE aB,f0,r0,s0⟩
      have mk:∀k,k<=len->∃pV:List (List Dt),pV.length=k/\(∀e,e∈pV->ig es e)/\(∀(i:Nat)N0,pV[i]? =some N0->∃AV,w.cells? aA (a.add (i*es.length)) es.length=some AV/\gE w AV N0)/\
        Dt.dE pV<=li bk.f ((elems.take k).map (·.1)):=by
       intro k
       induction k with
       |zero=>intro _;exact⟨[],rfl,aG,aG,by simp[Dt.dE]⟩
       |succ k Y8=>
        intro hk;obtain⟨pV,h1,h2,h3,h4⟩:=Y8 om;obtain⟨AV,x0,N0,BB,UX,f0,r0,s0⟩:=lh k om;refine⟨pV++ [N0],by simp[h1],fun e he=>?_,fun i XL hi=>?_,?_⟩
        .rcases abL.1 he with he|he
         .exact h2 e he
         .simp at he;subst he;exact f0
        .rcases acN i k with aB|rfl|hgt
         .rw[ZY om]at hi;exact h3 i XL hi
         .rw[ZW om,h1]at hi;simp at hi;subst hi;exact⟨AV,BB,r0⟩
         .rw[ZW om,h1,show i-k=(i-k-1)+1 by omega]at hi
          simp at hi
        .have y9:elems.take (k+1)=elems.take k++ [x0]:=by rw[abM,UX];rfl
         have Y9:∀(p q:List (DataW H)),li bk.f (p++q)=li bk.f p+li bk.f q:=by
          intro p
          induction p with
          |nil=>intro q;simp[li]
          |cons y r Za=>intro q;simp[li,Za q];omega
         have hLL:∀(p q:List (List Dt)),Dt.dE (p++q)=Dt.dE p+Dt.dE q:=by
          intro p
          induction p with
          |nil=>intro q;simp[Dt.dE]
          |cons y r Za=>intro q;simp[Dt.dE,Za q];omega
         rw[y9,abn,Y9,hLL];simp only[abv,ac0,li,Dt.dE];omega
      obtain⟨pV,h1,h2,h3,h4⟩:=mk len (SS _);refine⟨[.sl es.length pV],.sl es pV h2 .nil,gE.one ?_,?_⟩
      .rcases abB len with h0|dz
       .subst h0;rw[Z1 h1];exact .nil _ _ _ XB
       .have h0:=h3 0 pV[0] (IE om);obtain⟨AV,BB,hr0⟩:=h0;obtain⟨xg,XH,zx⟩:=World.cells?_some BB;have zw:a.spot=none:=by
         have h5:=zx 0 hc.2;have hz:((a.add (0*es.length)).add 0)=a:=by simp[Addr.add]
         rw[hz]at h5;have aB:0<AV.length:=om;rw[IE aB]at h5;exact H5 h5
        have hblk:a.block<w.heap.size:=by
         have:=World.cells?_block BB hc.2;have hz:(a.add (0*es.length))=a:=by simp[Addr.add]
         rw[hz]at this;exact this
        have RL:∀i j,((a.add (i*es.length)).add j)=⟨a.block,a.off+i*es.length+j,none⟩:=by
         intro i j;obtain⟨ab,ao,asp⟩:=a;simp only at zw;subst zw;unfold Addr.add;split<;>split<;>simp_all
        rw[<-h1];have ea:a=⟨a.block,a.off,none⟩:=by obtain⟨ab,ao,asp⟩:=a;simp only at zw;subst zw;rfl
        rw[ea];have key:∀(i:Nat)eh(j:Nat)d',pV[i]? =some eh->eh[j]? =some d'->∃u,w.cell? ⟨a.block,a.off+i*es.length+j,none⟩=some u/\dv (fun b=>b<w.heap.size) w d' u:=by
         intro i eh j d' hi hj;obtain⟨cs1,Vv,AW⟩:=h3 i eh hi;obtain⟨_,Bf,zy⟩:=World.cells?_some Vv;have da:j<cs1.length:=by rw[AW.1];exact(Mh.1 hj).1
         have h6:=zy j om;rw[RL,IE da]at h6;exact⟨_,h6,AW.2 j _ d' (IE da) hj⟩
        refine dv.sl es.length pV a.block a.off cap (fun i j=>(w.cell? ⟨a.block,a.off+i*es.length+j,none⟩).getD Go.undef) hblk om XB (fun eh Kv=>(h2 eh Kv).len)
         (fun i eh j d' hi hj=>by obtain⟨u,hu,_⟩:=key i eh j d' hi hj;rw[hu];rfl)
         (fun i eh j d' hi hj=>by obtain⟨u,hu,hd⟩:=key i eh j d' hi hj;rw[hu];exact hd)
      .have h5:=bk.slice (elems.map (·.1)) (rest.map (·.1))
       have h6:elems.take len=elems:=abS om;rw[h6]at h4;simp only[Dt.fB,Dt.size];omega
    .cases h
   .cases h
  .rename_i fs ht;obtain⟨xs,n,rfl,rfl,hl,hlen,hf⟩:=DataW.trod_struct ht hx;have go:∀(l:List Field)(k off:Nat)(ls:List Lf),fs.toList.drop k=l->vu P (n8 P d) l off=some ls->cs.length=off+ls.length->∃ds,ig ls ds/\gE w (cs.drop off) ds/\Dt.fB ds<=li bk.f ((xs.drop k).map (·.1)):=by
    intro l
    induction l with
    |nil=>
     intro k off ls _ rY fU;simp only[vu]at rY;cases rY;refine⟨[],.nil,?_,by simp[Dt.fB]⟩
     have:cs.drop off=[]:=acQ (by simp at fU;omega)
     rw[this];exact gE.nil
    |cons f r ihl=>
     intro k off ls hk rY fU;simp only[vu]at rY;split at rY
     .rename_i DV;split at rY
      .rename_i ks JV;split at rY
       .rename_i hck;split at rY
        .rename_i rs R9;cases rY;have Vw:fs[k]? =some f:=by
          have:(fs.toList.drop k)[0]? =some f:=by rw[hk];rfl
          simpa using this
         have hr:fs.toList.drop (k+1)=r:=by rw[<-List.tail_drop,hk];rfl
         have rb:k<xs.length:=by rw[hlen];exact(aaK.1 Vw).1
         have KZ:=hf k f Vw;rw[DV,hck,IE rb]at KZ;obtain⟨XM,f1,r1,s1⟩:=ih f.type ks JV n _ _ KZ;rw[abO]at fU;obtain⟨Zb,f2,r2,s2⟩:=ihl (k+1) (off+ks.length) rs hr R9 om;refine⟨XM++Zb,f1.append f2,?_,?_⟩
         .have:cs.drop off=(cs.drop off).take ks.length++cs.drop (off+ks.length):=by rw[<-List.drop_drop,acT]
          rw[this];exact r1.append r2
         .rw[Dt.mT,acF rb];simp only[abv,li];omega
        .cases rY
       .cases rY
      .cases rY
     .cases rY
   split at h
   .rename_i Y7 rY;split at h
    .rename_i hc;cases h;obtain⟨ds,f1,r1,s1⟩:=go fs.toList 0 0 _ aG rY om;refine⟨ds,f1,by simpa using r1,?_⟩
     have:=bk.agg (xs.map (·.1))
     simp only[ac6]at s1;show _<=bk.f (DataW.agg (xs.map (·.1)))
     omega
    .cases h
   .cases h
  .rename_i n e ht;split at h
   .rename_i es nV;split at h
    .rename_i hc;cases h;obtain⟨xs,m,rfl,rfl,hl,hlen,Da⟩:=DataW.trod_array ht hx;have go:∀(k i:Nat),i+k=n->∃ds,ig (Sa k es) ds/\gE w (cs.drop (i*es.length)) ds/\Dt.fB ds<=li bk.f ((xs.drop i).map (·.1)):=by
      intro k
      induction k with
      |zero=>
       intro i hi;refine⟨[],.nil,?_,by simp[Dt.fB]⟩
       have:cs.drop (i*es.length)=[]:=acQ (by rw[hl,hc.2,show i=n by omega];exact SS _)
       rw[this];exact gE.nil
      |succ k Y8=>
       intro i hi;have KZ:=Da i om;have BC:i<xs.length:=om;rw[hc.1,IE BC]at KZ;obtain⟨XM,f1,r1,s1⟩:=ih e es nV m _ _ KZ;obtain⟨Zb,f2,r2,s2⟩:=Y8 (i+1) om;refine⟨XM++Zb,f1.append f2,?_,?_⟩
       .have:cs.drop (i*es.length)=(cs.drop (i*es.length)).take es.length++cs.drop ((i+1)*es.length):=by rw[abE,ab3,<-List.drop_drop,acT]
        rw[this];exact r1.append r2
       .rw[Dt.mT,acF BC];simp only[abv,li];omega
     obtain⟨ds,f1,r1,s1⟩:=go n 0 om;refine⟨ds,f1,by simpa using r1,?_⟩
     have:=bk.agg (xs.map (·.1))
     simp only[ac6]at s1;show _<=bk.f (DataW.agg (xs.map (·.1)))
     omega
    .cases h
   .cases h
  .cases h
def Vx(agg:Bool)(ds:List Dt):CV:=match agg,ds with
 |true,ds=>.rv (.agg (ds.map .aa))
 |false,[d]=>.rv (.one (.aa d))
 |false,_=>.aq
theorem K2{agg:Bool}{v:Value}{ds:List Dt}(hr:gE w v.cells.toList ds)(ha:agg=true->∃vs,v= .agg vs)(hn:agg=false->v.oneCell'=true):cm (H4 w) w (Vx agg ds) v:=by
 cases agg with
 |true=>
  obtain⟨vs,rfl⟩:=ha rfl;refine⟨vs.toList,aG,by simpa[Value.cells]using hr.1,fun i c hi=>?_⟩
  rw[Q8]at hi;cases hd:ds[i]? with
  |none=>rw[hd]at hi;cases hi
  |some d=>
   rw[hd]at hi;cases hi;have aB:i<vs.toList.length:=by have:=(Mh.1 hd).1;have h1:=hr.1;simp only[Value.cells]at h1;omega
   exact⟨_,IE aB,hr.2 i _ d (IE aB) hd⟩
 |false=>
  have h1:=hn rfl;have hc:v.cells.toList=[v]:=by cases v<;>first|rfl|simp[Value.oneCell']at h1
  rw[hc]at hr
  match ds,hr with
  | [d],hr=>exact hr.2 0 v d rfl rfl
end
end Go.AM
