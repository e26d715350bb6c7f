/- Part 6 of 16. -/
import Derived.Test.YtodckkkbiidffaaGreatDoorG02
import Derived.Test.YtodckkkbiidffaaGreatDoorG03
import Derived.Test.YtodckkkbiidffaaGreatDoorG04
import Derived.Test.YtodckkkbiidffaaGreatDoorG05
import Derived.Laws.IdiomStrings
import Derived.Laws.MakeOwn
import Derived.MapKept
import Derived.Maps.RangeRun
set_option linter.unusedVariables false
set_option linter.unusedSimpArgs false
set_option linter.unnecessarySimpa false
set_option maxRecDepth 100000
set_option maxHeartbeats 0
namespace Go.AM
open Go.MapKept
section
variable {P:Program} {U:bF} {m:Mem} {w:World} {aX:List CV} {a:Act} {K:CV->Mem->Prop}
theorem yL:∀{E:List (List CC)}{xs:List Int},vy E=some xs->E=xs.map λn=>[.aa (.val (.int .u8 n))]
 | [],xs,h=>by simp[vy]at h;subst h;rfl
 |cs::r,xs,h=>by
  unfold vy at h;split at h
  .rename_i heq;cases heq
  .rename_i n r' heq;cases heq;split at h
   .rename_i l hl;cases h;rw[yL hl];rfl
   .cases h
  .cases h
theorem Ie(hM:au U m w)(hE:bi U w aX a.tmps){s d e:TypeId}{x:Operand}{x':X}(hs:P.underlying s=some (.slice e))(he:P.underlying e=some (.int .u8))(hd:P.underlying d=some .string)(hx:bm x=some x')(h:step P (.Ub x') aX m K):dh P (do pure (Next.value (<-convert s d (a.eval x)))) U m w K:=by
 have cq:=aR hE hx;simp only[step]at h;obtain⟨E,z8,h⟩:=aZ.1 h;obtain⟨xs,Yx,hK⟩:=aZ.1 h;obtain⟨ad,cap,vs,hv,h1,h2,F⟩:=ni hM z8 cq;have hEx:=yL Yx;have DP:∀i,i<xs.length->vs[i]? =some (.int .u8 (xs.getD i 0)):=by
  intro i hi;have hg:E[i]? =some [.aa (.val (.int .u8 xs[i]))]:=by rw[hEx,RA,uX hi];rfl
  obtain⟨u,hu,ct⟩:=F.jR i _ 0 _ hg rfl;cases ct with
  |val v hp=>
   rw[show i=i*1+0 by omega,hu]
   simp[List.getD,uX hi]
 have hlen:E.length=xs.length:=by rw[hEx];simp
 refine dh.pure hM (v:= .string (strOfNums xs)) ?_ hK (cy rfl);rw[hv,Sem.run_bind];rcases abu E.length with h0|h0
 .have Vj:xs=[]:=aag om;subst Vj;rw[h0];cases ad with
  |none=>rw[run_convert_bytes_nil (P:=P) w s e hs he 0 cap d hd];rfl
  |some ad=>
   obtain⟨b,off,sp⟩:=ad;have:(convert s d (.slice (some ⟨b,off,sp⟩) 0 cap)).run P w= .ok (.string (strOfNums [])) w:=by
    rw[run_convert_bytes_string w s d e _ 0 cap hs he hd,run_bytesToString w _ 0 cap [] (by simp[loadCells,loadCellsFrom])]
    rfl
   rw[this];rfl
 .obtain⟨b,off,rfl,hc⟩:=F.Se h0;rw[run_convert_bytes_arg (P:=P) w s e hs he b off E.length cap xs hlen.symm (λi hi=>hc i _ (DP i om)) d hd]
  rfl
theorem rf(hM:au U m w){esz cap:Nat}{elems:List (List CC)}{cells:Array Value}{w':World}(QR:eu w w')(bT:l6 (esz=1) w' w.heap.size cells)(dn:cap*esz<=cells.size)(hlen:elems.length<=cap)(bc:cap<=maxLen)(nX:∀cs,cs∈elems->cs.length=esz)(hd:∀(i:Nat)cs(j:Nat)c,elems[i]? =some cs->cs[j]? =some c->∃u,cells[i*esz+j]? =some u/\bh U w .none c u):
  ∃U',au U' (m++ [.row esz elems]) w'/\Ext U m w U' (m++ [.row esz elems]) w'/\
   bZ U' w' (.rv (.one (.row m.length esz 0 none))) (.slice (some ⟨w.heap.size,0,none⟩) elems.length cap):=by
 have aD:w.heap.size<w'.heap.size:=bT.lt;let l:vl:=⟨w.heap.size,0,elems.length,cap⟩;have hn:=hM.n;have bM:(U.push l).aH (.al m.length)=l:=by rw[<-hn];exact U.fN l
 have g:iz U w (U.push l) w':=⟨by simp[bF.push],λk hk=>U.eD l hk,λb hb=>hb,λb hb=>QR.heap b (hM.S b hb)⟩
 have hb:cI (U.push l) w' m.length (.row esz elems):=by
  refine⟨by rw[bM],by rw[bM];exact hlen,by rw[bM];exact bc,nX,λ_=>⟨cells,by rw[bM];exact bT,by rw[bM];simpa[l]using dn,λi cs j c hi hj=>?_⟩⟩
  obtain⟨u,hu,ct⟩:=hd i cs j c hi hj;exact⟨u,by rw[bM];simpa[l]using hu,(ct.cm g aC).vH _⟩
 obtain⟨h1,h2⟩:=hM.push (l:=l) QR (Ts _) aD hb (λi cs j c hi hj=>by obtain⟨u,hu,ct⟩:=hd i cs j c hi hj;exact ct.zV)
 refine⟨_,h1,h2,by simp[bF.push,hn],?_⟩
 rw[bM];refine⟨aC,aC,hlen,bc,_,rfl,λ_=>?_⟩
 simp[l]
theorem Ig(hM:au U m w)(hE:bi U w aX a.tmps){s d e:TypeId}{x:Operand}{x':X}(hs:P.underlying s=some .string)(hd:P.underlying d=some (.slice e))(he:P.underlying e=some (.int .u8))(hx:bm x=some x')(h:step P (.UM x') aX m K):dh P (do pure (Next.value (<-convert s d (a.eval x)))) U m w K:=by
 have cq:=aR hE hx;simp only[step]at h;generalize a.eval x=v at cq|-;generalize x'.ev aX=c at cq h;split at h
 .rename_i str;obtain⟨rfl,hp⟩:=bJ cq;obtain⟨dn,hK⟩:=h;rw[gx,bX]at hK;have d7:=grownCap_ge w str.size 0 e;have hle:grownCap w str.size 0 e<=maxLen:=grownCap_le_maxLen w _ 0 e (by unfold maxLen;omega)
  have eB:(bytesRow str (grownCap w str.size 0 e)).size=grownCap w str.size 0 e:=by simp only[bytesRow,Array.size_append,Array.size_map,Array.size_replicate];have:str.data.size=str.size:=rfl;omega
  have hlen:(p5 str).length=str.size:=by simp[p5]
  obtain⟨U',g1,g2,g3⟩:=rf hM (esz:=1) (cap:=grownCap w str.size 0 e) (elems:=p5 str) (cells:=bytesRow str (grownCap w str.size 0 e))
   (w':=w.drew.alloc (.cells (bytesRow str (grownCap w str.size 0 e)) e ((bytesRow str (grownCap w str.size 0 e)).size,(bytesRow str (grownCap w str.size 0 e)).size+1)))
   ((eu.drew w).trans (eu.alloc w.drew _)) ⟨e,_,heap_alloc_new w.drew _,aC,(λi hi=>by simp;omega),.inl rfl⟩ (by rw[eB];omega) (by rw[hlen];exact d7) hle
   (λcs eB=>by simp only[p5,aak]at eB;obtain⟨_,_,rfl⟩:=eB;rfl)
   (λi cs j c hi hj=>by
    simp only[p5,RA]at hi;obtain⟨b,hb,rfl⟩:=aao.1 hi;cases j with
    |zero=>
     simp at hj;subst hj;refine⟨.int .u8 b.toNat,?_,.val _ rfl⟩;have sX:str.data[i]? =some b:=by simpa using hb
     have aD:=(aap.1 sX).1;simp only[bytesRow,Nat.mul_one,acm];rw[acg (by simpa using aD),ac2,sX]
     rfl
    |succ j=>simp at hj)
  rw[hlen]at g3;exact⟨_,_,_,_,_,U',by rw[Sem.run_bind,run_bytes_of_string w s d e str hs hd he];rfl,.inl rfl,hK,g1,g3,g2⟩
 .exact h.elim
theorem x8(hM:au U m w)(hE:bi U w aX a.tmps){t e:TypeId}{i:TypeInfo}{z:List CC}{x y:Operand}{x' y':X}(ht:P.underlying t=some (.slice e))(hi:P.info? e=some i)(hz:dW P e=some z)(dn:i.size=z.length)(cH:0<z.length)(hb:0<i.bytes)(hx:bm x=some x')(hy:bm y=some y')(h:step P (.o4 i.size i.bytes z x' y') aX m K):dh P (do pure (Next.value (<-Instr.makeSlice t (a.eval x) (a.eval y)))) U m w K:=by
 simp only[step]at h;obtain⟨l,hl,h⟩:=aZ.1 h;obtain⟨c,hc,h⟩:=aZ.1 h;rcases cn.1 h with⟨oh,h⟩|⟨_,h⟩
 case inr=>exact h.elim
 have oh:l=c:=aai oh;subst oh;obtain⟨kn,hK⟩:=h;rw[gx,bX]at hK;have nat:∀{c:CV}{v:Value}{k:Nat},p4 c=some k->bZ U w c v->∃kd,v= .int kd (k:Int):=by
  intro c v k h hd;unfold p4 at h;split at h
  .cases h;obtain⟨rfl,_⟩:=bJ hd;exact⟨_,rfl⟩
  .cases h
 obtain⟨kl,x9⟩:=nat hl (aR hE hx);obtain⟨kc,Vk⟩:=nat hc (aR hE hy);have DN:=hz;simp only[dW,RX,N0]at DN;obtain⟨i',ew,zv,OV,OR⟩:=DN;rw[hi]at ew;cases ew;obtain⟨YS,Oo⟩:=eZ (U:=U) (w:=w) OR;have Oq:zv.cells.size=z.length:=by simpa using YS
 have Ej:l<=140737488355328:=abH (acM _ hb) kn;obtain⟨U',g1,g2,g3⟩:=rf hM (esz:=i.size) (cap:=l) (elems:=gw l z) (cells:=madeCells zv.cells (l*i.size)) (w':=w.alloc (.cells (madeCells zv.cells (l*i.size)) e))
  (eu.alloc w _) (l6.new w _ e) (by rw[size_madeCells];exact Ts _) (by rw[fH];simp) (by unfold maxLen;omega)
  (λcs eB=>by rw[fH]at eB;rw[ab9 eB,dn])
  (λk cs j cc hk hj=>by
   rw[fH]at hk;have jZ:=(I4.1 hk).1;simp at jZ;have eB:cs=z:=by have:=RD hk;exact ab9 this
   subst eB;have ya:=(I4.1 hj).1;obtain⟨u,hu,ct⟩:=Oo j cc hj;refine⟨u,?_,ct⟩;have aD:k*i.size+j<l*i.size:=by have:(k+1)*i.size<=l*i.size:=abh _ jZ;rw[abr,abZ]at this;omega
   simp only[madeCells,ac2,Array.getElem?_range];rw[if_pos aD];simp only[aaz,aam];have hm:(k*i.size+j)%zv.cells.size=j:=by rw[Oq,dn,acH,adl,adf ya]
   rw[hm];have uQ:zv.cells[j]? =some u:=by simpa using hu
   rw[getElem!_def,uQ])
 have Vl:(gw l z).length=l:=by rw[fH];simp
 rw[Vl]at g3;refine⟨_,_,_,_,_,U',?_,.inl rfl,hK,g1,g3,g2⟩;rw[x9,Vk,Sem.run_bind,run_make (P:=P) w t e i zv ht hi OV kl kc (l:Int) (l:Int) om (acu _) ?_ om]
 .rfl
 .have:i.bytes*l<=140737488355328:=by rw[acH];exact kn
  have h2:((i.bytes*l:Nat):Int)<=((140737488355328:Nat):Int):=Int.ofNat_le.2 this;rw[Int.natCast_mul]at h2;exact Int.le_trans h2 om
def gi:Ky->TypeDesc
 | .i k=>.int k
 | .s=>.string
 | .b=>.bool
theorem mG{t:TypeId}{kk:Ky}(h:xY P t=some kk):P.underlying t=some (gi kk):=by
 unfold xY at h;split at h<;>simp at h<;>subst h<;>assumption
theorem oq{kk:Ky}{v:Value}(h:pq kk v=true):IsKey (gi kk) v:=by
 cases kk<;>cases v<;>simp_all[pq,IsKey,gi]
theorem o8{kk:Ky}{a b:Value}{t:Bool}(ha:pq kk a=true)(h:jA a b=some t):Instr.sameNow (gi kk) a b=some t/\(t=true->a=b)/\(t=false->a≠b):=by
 cases kk<;>cases a<;>simp[pq]at ha<;>cases b<;>simp only[jA,reduceCtorEq]at h
 .rename_i k x k' y;split at h
  .rename_i hk;have hk:=of_decide_eq_true hk;subst hk;cases h;refine⟨by simp[Instr.sameNow,gi],λh=>by simp at h;rw[h],λh=>by simp at h;simpa using h⟩
  .cases h
 .rename_i x y;cases h;refine⟨by simp[Instr.sameNow,gi],λh=>by rw[(bytes_beq _ _).1 h],λh e=>?_⟩
  cases e;rw[(bytes_beq _ _).2 rfl]at h;cases h
 .rename_i x y;cases h;refine⟨by simp[Instr.sameNow,gi],λh=>by simp at h;rw[h],λh=>by simp at h;simpa using h⟩
theorem um{kk:Ky}{kv:Value}(hk:pq kk kv=true):∀(es:List ME)(bx:List MapEntry)(n:Nat)(o:Option RV),bx.length=es.length->
  (∀(i:Nat)e,es[i]? =some e->∃e',bx[i]? =some e'/\e'.key=e.key/\dq U w e.val e'.val)->BP kv es=some o->
  match o with
  |none=>Instr.findNow (gi kk) kv bx n=some none
  |some r=>∃j v,Instr.findNow (gi kk) kv bx n=some (some (n+j,v))/\dq U w r v
 | [],[],n,o,_,_,h=>by simp[BP]at h;subst h;rfl
 | [],_::_,_,_,h,_,_=>by simp at h
 |_::_,[],_,_,h,_,_=>by simp at h
 |e::es,e'::bx,n,o,hl,hr,h=>by
  obtain⟨e0,h0,gI,cq⟩:=hr 0 e rfl;simp at h0;subst h0;simp only[BP]at h;cases hq:jA kv e.key with
  |none=>rw[hq]at h;cases h
  |some t=>
   obtain⟨q1,q2,q3⟩:=o8 hk hq;rw[<-gI]at q1;cases t with
   |true=>
    rw[hq]at h;cases h;exact⟨0,e'.val,by simp[Instr.findNow,q1],cq⟩
   |false=>
    rw[hq]at h;have ih:=um hk es bx (n+1) o (by simpa using hl) (λi x hx=>by simpa using hr (i+1) x (by simpa using hx)) h
    cases o with
    |none=>simpa[Instr.findNow,q1]using ih
    |some r=>
     obtain⟨j,v,h1,h2⟩:=ih;exact⟨j+1,v,by simp[Instr.findNow,q1,h1];omega,h2⟩
theorem vS{kk:Ky}{kv:Value}(hk:pq kk kv=true)(r:RV):∀(es:List ME)(bx:List MapEntry)(n:Nat)(l:List ME),bx.length=es.length->
  (∀(i:Nat)e,es[i]? =some e->∃e',bx[i]? =some e'/\e'.key=e.key/\dq U w e.val e'.val)->KD kv r es=some l->
  (Instr.findNow (gi kk) kv bx n=some none/\l=es++ [⟨kv,r⟩])\/∃j e',Instr.findNow (gi kk) kv bx n=some (some (n+j,e'.val))/\bx[j]? =some e'/\e'.key=kv/\l=es.set j ⟨kv,r⟩
 | [],[],n,o,_,_,h=>by simp[KD]at h;subst h;exact .inl ⟨rfl,rfl⟩
 | [],_::_,_,_,h,_,_=>by simp at h
 |_::_,[],_,_,h,_,_=>by simp at h
 |e::es,e'::bx,n,o,hl,hr,h=>by
  obtain⟨e0,h0,gI,cq⟩:=hr 0 e rfl;simp at h0;subst h0;simp only[KD]at h;cases hq:jA kv e.key with
  |none=>rw[hq]at h;cases h
  |some t=>
   obtain⟨q1,q2,q3⟩:=o8 hk hq;rw[<-gI]at q1;cases t with
   |true=>
    rw[hq]at h;cases h;exact .inr ⟨0,e',by simp[Instr.findNow,q1],rfl,by rw[gI,q2 rfl],rfl⟩
   |false=>
    rw[hq]at h;simp only at h;split at h
    .rename_i l' B6;cases h;rcases vS hk r es bx (n+1) l' (by simpa using hl) (λi x hx=>by simpa using hr (i+1) x (by simpa using hx)) B6 with⟨h1,rfl⟩|⟨j,e1,h1,h2,h3,rfl⟩
     .exact .inl ⟨by simpa[Instr.findNow,q1]using h1,rfl⟩
     .exact .inr ⟨j+1,e1,by simp[Instr.findNow,q1,h1];omega,by simpa using h2,h3,rfl⟩
    .cases h
theorem uo(hM:au U m w){t:TypeId}{r:Option Value}(hr:r=none\/∃k n kt et,r=some (.int k n)/\P.underlying t=some (.map kt et))(h:step P .ua aX m K):dh P (do pure (Next.value (<-Instr.makeMap t r))) U m w K:=by
 simp only[step,gx,bX]at h;let l:vl:=⟨w.heap.size,0,0,0⟩;have hn:=hM.n;have bM:(U.push l).aH (.al m.length)=l:=by rw[<-hn];exact U.fN l
 obtain⟨h1,h2⟩:=hM.push (bk:= .mp []) (l:=l) (eu.alloc w (.map #[] 0)) (Ts _) (by simp[l]) (by refine⟨#[],0,⟨?_,aC,aC⟩,rfl,aC⟩;rw[bM];exact(heap_alloc w _).1) trivial
 refine⟨.value (.map (some w.heap.size)),.map (some w.heap.size),w.alloc (.map #[] 0),_,_,_,?_,.inl rfl,h,h1,⟨by simp[bF.push,hn],by rw[bM]⟩,h2⟩
 rcases hr with rfl|⟨k,n,kt,et,rfl,ht⟩
 .simp[Instr.makeMap]
 .simp[Instr.makeMap,run_underlying ht,asInt,asIntOf]
theorem yM{t:TypeId}{z:RV}(h:BR P t=some z):∃v,(zeroValue t).run P w= .ok v w/\dq U w z v:=by
 simp only[BR,RX,N0]at h;obtain⟨i,hi,zv,OV,h⟩:=h;refine⟨zv,by simp[zeroValue,typeInfo,hi,OV],?_⟩
 split at h
 .rename_i cs;simp only[N0]at h;obtain⟨zz,hz,h⟩:=h;cases h;obtain⟨h1,h2⟩:=eZ (U:=U) (w:=w) hz;exact⟨cs.toList,aC,h1,h2⟩
 .simp only[N0]at h;obtain⟨c,hc,h⟩:=h;cases h;exact p6 hc
theorem B7(hM:au U m w){c:CV}{v:Value}{es:List ME}(h:KF m c=some es)(hd:bZ U w c v):
  (v= .map none/\es=[])\/∃b bx clock,v= .map (some b)/\w.heap[b]? =some (.map bx clock)/\D1 U w es bx:=by
 unfold KF at h;split at h
 .rename_i id;split at h
  .rename_i YP hb;cases h;rw[aT]at hb;obtain⟨aD,rfl⟩:=hd;obtain⟨bx,clock,h1,h2⟩:=hM.bk id _ hb;exact .inr ⟨_,bx,clock,rfl,h1.1,h2⟩
  .cases h
 .cases h;obtain⟨rfl,_⟩:=bJ hd;exact .inl ⟨rfl,rfl⟩
 .cases h
theorem nj{kk:Ky}{kv:Value}(hk:pq kk kv=true):∀(es:List MO)(bx:List MapEntry)(n:Nat)(o:Option (Nat×MV)),bx.length=es.length->
  (∀(i:Nat)e,es[i]? =some e->∃e',bx[i]? =some e'/\e'.key=e.key)->iA kv es n=some o->
  match o with
  |none=>Instr.findNow (gi kk) kv bx n=some none
  |some (j,mv)=>∃i e',j=n+i/\es[i]? =some ⟨kv,mv⟩/\bx[i]? =some e'/\Instr.findNow (gi kk) kv bx n=some (some (n+i,e'.val))
 | [],[],n,o,_,_,h=>by simp[iA]at h;subst h;rfl
 | [],_::_,_,_,h,_,_=>by simp at h
 |_::_,[],_,_,h,_,_=>by simp at h
 |e::es,e'::bx,n,o,hl,hr,h=>by
  obtain⟨e0,h0,gI⟩:=hr 0 e rfl;simp at h0;subst h0;simp only[iA]at h;cases hq:jA kv e.key with
  |none=>rw[hq]at h;cases h
  |some t=>
   obtain⟨q1,q2,q3⟩:=o8 hk hq;rw[<-gI]at q1;cases t with
   |true=>
    rw[hq]at h;cases h;have:=q2 rfl;obtain⟨k0,v0⟩:=e;exact⟨0,e',rfl,by simp at this|-;exact this.symm,rfl,by simp[Instr.findNow,q1]⟩
   |false=>
    rw[hq]at h;have ih:=nj hk es bx (n+1) o (by simpa using hl) (λi x hx=>by simpa using hr (i+1) x (by simpa using hx)) h
    cases o with
    |none=>simpa[Instr.findNow,q1]using ih
    |some r=>
     obtain⟨j,mv⟩:=r;obtain⟨i,e1,h1,h2,h3,h4⟩:=ih;exact⟨i+1,e1,om,h2,h3,by simp[Instr.findNow,q1,h4];omega⟩
theorem uq{kk:Ky}{kv:Value}(hk:pq kk kv=true)(r:MV):∀(es:List MO)(bx:List MapEntry)(n:Nat)(l:List MO),bx.length=es.length->
  (∀(i:Nat)e,es[i]? =some e->∃e',bx[i]? =some e'/\e'.key=e.key)->mw kv r es=some l->
  (Instr.findNow (gi kk) kv bx n=some none/\l=es++ [⟨kv,r⟩])\/∃j e',Instr.findNow (gi kk) kv bx n=some (some (n+j,e'.val))/\bx[j]? =some e'/\e'.key=kv/\l=es.set j ⟨kv,r⟩
 | [],[],n,o,_,_,h=>by simp[mw]at h;subst h;exact .inl ⟨rfl,rfl⟩
 | [],_::_,_,_,h,_,_=>by simp at h
 |_::_,[],_,_,h,_,_=>by simp at h
 |e::es,e'::bx,n,o,hl,hr,h=>by
  obtain⟨e0,h0,gI⟩:=hr 0 e rfl;simp at h0;subst h0;simp only[mw]at h;cases hq:jA kv e.key with
  |none=>rw[hq]at h;cases h
  |some t=>
   obtain⟨q1,q2,q3⟩:=o8 hk hq;rw[<-gI]at q1;cases t with
   |true=>
    rw[hq]at h;cases h;exact .inr ⟨0,e',by simp[Instr.findNow,q1],rfl,by rw[gI,q2 rfl],rfl⟩
   |false=>
    rw[hq]at h;simp only at h;split at h
    .rename_i l' B6;cases h;rcases uq hk r es bx (n+1) l' (by simpa using hl) (λi x hx=>by simpa using hr (i+1) x (by simpa using hx)) B6 with⟨h1,rfl⟩|⟨j,e1,h1,h2,h3,rfl⟩
     .exact .inl ⟨by simpa[Instr.findNow,q1]using h1,rfl⟩
     .exact .inr ⟨j+1,e1,by simp[Instr.findNow,q1,h1];omega,by simpa using h2,h3,rfl⟩
    .cases h
theorem Ab{id esz:Nat}{es:List MO}{bx:Array MapEntry}(h:bx.size=es.length/\∀(i:Nat)e,es[i]? =some e->∃e',bx[i]? =some e'/\e'.key=e.key/\cE e.key=true/\bh U w (some (id,i,0)) (e.cc esz) e'.val):
  bx.toList.length=es.length/\∀(i:Nat)e,es[i]? =some e->∃e',bx.toList[i]? =some e'/\e'.key=e.key:=
 ⟨by simpa using h.1,λi e he=>let⟨e',h1,h2,_⟩:=h.2 i e he;⟨e',by simpa using h1,h2⟩⟩
theorem O4(hM:au U m w){t kt vt:TypeId}{z:RV}{kk:Ky}{kv:Value}{b:Bool}(ht:P.underlying t=some (.map kt vt))(hz:BR P vt=some z)(hk:xY P kt=some kk)(gO:pq kk kv=true){id esz:Nat}{es:List MO}{so:Option (List Nat×Nat)}(de:m[id]? =some (.mo esz es so))(h:ok (iA kv es 0) λo=>match o with
    |none=>K (vz b z none) m
    |some (_,.row n)=>K (vz b z (some (.one (.row n esz 0 none)))) m
    |some (i,.dV l)=>nc m λn=>K (vz b z (some (.one (.row n esz 0 none)))) (gh (aW m id (.mo esz (aW es i ⟨kv,.row n⟩) so)) [.row esz (l.map λds=>ds.map .aa)])):
  dh P (do pure (Next.value (<-Instr.lookup t (.map (some (U.aH (.al id)).b)) kv b))) U m w K:=by
 obtain⟨o,ho,hK⟩:=aZ.1 h;have sJ:=mG hk;have gI:=oq gO;obtain⟨zv,QS,Oo⟩:=yM (U:=U) (w:=w) hz;obtain⟨bx,clock,⟨hb,re⟩,fe,lw⟩:=hM.bk id _ de;have Ot:=Ab fe;have hf:=nj gO es bx.toList 0 o Ot.1 Ot.2 ho;have run:∀(o':Option (Nat×Value)),Instr.findNow (gi kk) kv bx.toList 0=some o'->
    (Instr.lookup t (.map (some (U.aH (.al id)).b)) kv b).run P w=((match o' with|some (_,v)=>(Pure.pure (v,true):Sem (Value×Bool))|none=>(do pure (<-zeroValue vt,false))).run P w).andThen λp w'=>.ok (if b then .tuple #[p.1,.bool p.2]else p.1) w':=by
  intro o' fj;cases o' with
  |none=>cases b<;>simp[Instr.lookup,run_underlying ht,Go.MapKept.run_getObj_map hb,run_checkKey sJ gI,run_findKey sJ fj,Result.andThen,QS]
  |some p=>cases b<;>simp[Instr.lookup,run_underlying ht,Go.MapKept.run_getObj_map hb,run_checkKey sJ gI,run_findKey sJ fj,Result.andThen]
 have jR:∀(ρ1:bF)(v:Value)(r:RV)(t:Bool),dq ρ1 w r v->bZ ρ1 w (.bz [r,.one (.aa (.val (.bool t)))]) (.tuple #[v,.bool t]):=λρ1 v r t hv=>
  ⟨[v,.bool t],rfl,rfl,λi r' hi=>by
   match i,hi with
   |0,hi=>cases hi;exact⟨v,rfl,hv⟩
   |1,hi=>cases hi;exact⟨_,rfl,.val _ rfl⟩⟩
 cases o with
 |none=>
  have h1:=run none hf;simp only[Sem.run_bind,QS,Result.andThen_ok,Sem.run_pure]at h1;cases b with
  |false=>exact dh.pure hM (v:=zv) (by rw[Sem.run_bind,h1];rfl) hK Oo
  |true=>exact dh.pure hM (v:= .tuple #[zv,.bool false]) (by rw[Sem.run_bind,h1];rfl) hK (jR _ zv z false Oo)
 |some r=>
  obtain⟨j,mv⟩:=r;obtain⟨i,e',hj,hi,mr,hf⟩:=hf;have hj:j=i:=om;subst hj;have h1:=run _ hf;simp only[Sem.run_pure,Result.andThen_ok]at h1;obtain⟨e1,g1,g2,g3,g4⟩:=fe.2 j _ hi;have:e1=e':=by rw[abB]at mr;rw[mr]at g1;cases g1;rfl
  subst this;cases mv with
  |row n=>
   have hv:dq U w (.one (.row n esz 0 none)) e1.val:=g4;cases b with
   |false=>exact dh.pure hM (v:=e1.val) (by rw[Sem.run_bind,h1];rfl) hK hv
   |true=>exact dh.pure hM (v:= .tuple #[e1.val,.bool true]) (by rw[Sem.run_bind,h1];rfl) hK (jR _ _ _ true hv)
  |dV l=>
   simp only[gx,bX,a8]at hK;obtain⟨U',jc,hX,hd⟩:=hM.YM de hi;have hv:dq U' w (.one (.row m.length esz 0 none)) e1.val:=hd _ g4;cases b with
   |false=>exact⟨_,e1.val,w,_,_,U',by rw[Sem.run_bind,h1];rfl,.inl rfl,hK,jc,hv,hX⟩
   |true=>exact⟨_,.tuple #[e1.val,.bool true],w,_,_,U',by rw[Sem.run_bind,h1];rfl,.inl rfl,hK,jc,jR _ _ _ true hv,hX⟩
theorem Ih{c:CV}{v:Value}{id esz:Nat}{es:List MO}{so:Option (List Nat×Nat)}(h:R1 m c=some (id,esz,es,so))(hd:bZ U w c v):m[id]? =some (.mo esz es so)/\v= .map (some (U.aH (.al id)).b):=by
 unfold R1 at h;split at h
 .split at h
  .rename_i hb;cases h;rw[aT]at hb;exact⟨hb,hd.2⟩
  .cases h
 .cases h
theorem Es(hM:au U m w)(hE:bi U w aX a.tmps){t kt vt:TypeId}{z:RV}{kk:Ky}{x k:Operand}{x' k':X}{b:Bool}(ht:P.underlying t=some (.map kt vt))(hz:BR P vt=some z)(hk:xY P kt=some kk)(hx:bm x=some x')(K9:bm k=some k')(h:step P (.zQ z kk x' k' b) aX m K):dh P (do pure (Next.value (<-Instr.lookup t (a.eval x) (a.eval k) b))) U m w K:=by
 have sZ:=aR hE hx;have Ac:=aR hE K9;simp only[step]at h;generalize a.eval x=xv at sZ|-;generalize a.eval k=kv at Ac|-;generalize k'.ev aX=kc at Ac h;split at h
 .rename_i Vm;rcases cn.1 h with⟨gO,h⟩|⟨_,h⟩
  case inr=>exact h.elim
  obtain⟨rfl,Ic⟩:=bJ Ac (λe=>by subst e;cases kk<;>simp[pq]at gO)
  split at h
  .rename_i id esz es so hmo;obtain⟨hb,rfl⟩:=Ih hmo sZ;exact O4 hM ht hz hk gO hb h
  obtain⟨es,nX,h⟩:=aZ.1 h;obtain⟨o,ho,hK⟩:=aZ.1 h;have sJ:=mG hk;have gI:=oq gO;obtain⟨zv,QS,Oo⟩:=yM (U:=U) (w:=w) hz;have jR:∀(v:Value)(r:RV)(t:Bool),dq U w r v->(b=true->bZ U w (.bz [r,.one (.aa (.val (.bool t)))]) (.tuple #[v,.bool t])):=λv r t hv _=>
   ⟨[v,.bool t],rfl,rfl,λi r' hi=>by
    match i,hi with
    |0,hi=>cases hi;exact⟨v,rfl,hv⟩
    |1,hi=>cases hi;exact⟨_,rfl,.val _ rfl⟩⟩
  have go:∀(r:Option Nat)(bx:List MapEntry)(em:Bool),(∀(o':Option (Nat×Value)),Instr.findNow (gi kk) kv bx 0=some o'->
    (Instr.lookup t (.map r) kv b).run P w=((match o' with|some (_,v)=>(Pure.pure (v,true):Sem (Value×Bool))|none=>(do pure (<-zeroValue vt,false))).run P w).andThen λp w'=>.ok (if b then .tuple #[p.1,.bool p.2]else p.1) w')->
    (bx.length=es.length/\∀(i:Nat)e,es[i]? =some e->∃e',bx[i]? =some e'/\e'.key=e.key/\dq U w e.val e'.val)->dh P (do pure (Next.value (<-Instr.lookup t (.map r) kv b))) U m w K:=by
   intro r bx em cU fe;have hf:=um (U:=U) (w:=w) gO es bx 0 o fe.1 fe.2 ho;cases o with
   |none=>
    have h1:=cU none hf;simp only[Sem.run_bind,QS,Result.andThen_ok,Sem.run_pure]at h1;cases b with
    |false=>exact dh.pure hM (v:=zv) (by rw[Sem.run_bind,h1];rfl) hK Oo
    |true=>exact dh.pure hM (v:= .tuple #[zv,.bool false]) (by rw[Sem.run_bind,h1];rfl) hK (jR zv z false Oo rfl)
   |some r=>
    obtain⟨j,v,hf,hv⟩:=hf;have h1:=cU _ hf;simp only[Sem.run_pure,Result.andThen_ok]at h1;cases b with
    |false=>exact dh.pure hM (v:=v) (by rw[Sem.run_bind,h1];rfl) hK hv
    |true=>exact dh.pure hM (v:= .tuple #[v,.bool true]) (by rw[Sem.run_bind,h1];rfl) hK (jR v r true hv rfl)
  rcases B7 hM nX sZ with⟨rfl,rfl⟩|⟨r,bx,clock,rfl,hb,hl,hr⟩
  .refine go none [] true (λo' fj=>?_) ⟨rfl,aC⟩
   cases o' with
   |none=>cases b<;>simp[Instr.lookup,run_underlying ht,run_checkKey sJ gI,run_findKey sJ fj,Result.andThen,QS]
   |some p=>cases b<;>simp[Instr.lookup,run_underlying ht,run_checkKey sJ gI,run_findKey sJ fj,Result.andThen]
  .refine go (some r) bx.toList bx.isEmpty (λo' fj=>?_) ⟨by simpa using hl,λi e he=>by
     obtain⟨e',h1,h2⟩:=hr i e he;exact⟨e',by simpa using h1,h2⟩⟩
   cases o' with
   |none=>cases b<;>simp[Instr.lookup,run_underlying ht,Go.MapKept.run_getObj_map hb,run_checkKey sJ gI,run_findKey sJ fj,Result.andThen,QS]
   |some p=>cases b<;>simp[Instr.lookup,run_underlying ht,Go.MapKept.run_getObj_map hb,run_checkKey sJ gI,run_findKey sJ fj,Result.andThen]
 .exact h.elim
theorem La{c:CV}{v:Value}{r:RV}(h:D2 c=some r)(hd:bZ U w c v):dq U w r v:=by
 unfold D2 at h;split at h
 .cases h;exact hd
 .cases h
theorem iV.push{es:Array MapEntry}{clock:Nat}(h:iV es clock){k v:Value}:iV (es.push {key:=k,val:=v,born:=clock}) (clock+1):=by
 refine⟨λe he=>?_,?_⟩
 .simp only[Array.toList_push,abD,ab7]at he;rcases he with he|rfl
  .exact Nat.lt_succ_of_lt (h.1 e he)
  .exact ab0 _
 .rw[Array.toList_push,abw,List.nodup_append];refine⟨h.2,aC,λa ha b hb=>?_⟩
  obtain⟨e,he,rfl⟩:=aak.1 ha;simp at hb;subst hb;exact Nat.ne_of_lt (h.1 e he)
theorem iV.mod{es:Array MapEntry}{clock:Nat}(h:iV es clock){j:Nat}{k v:Value}:iV (es.modify j λe=>{e with key:=k,val:=v}) clock:=by
 have e1:(es.modify j λe=>{e with key:=k,val:=v}).toList.map (·.born)=es.toList.map (·.born):=by
  apply abF;intro i;rw[RA,RA,abB,abB,abx];split
  .cases es[i]? <;>rfl
  .rfl
 refine⟨λe he=>?_,by rw[e1];exact h.2⟩
 have:e.born∈es.toList.map (·.born):=by rw[<-e1];exact aak.2 ⟨e,he,rfl⟩
 obtain⟨x,hx,hb⟩:=aak.1 this;rw[<-hb];exact h.1 x hx
theorem O5(hM:au U m w){t kt vt:TypeId}{kk:Ky}{kv:Value}(ht:P.underlying t=some (.map kt vt))(hk:xY P kt=some kk)(gO:pq kk kv=true)(Ic:cE kv=true){id esz:Nat}{es:List MO}(de:m[id]? =some (.mo esz es none)){n lo:Nat}{hi:Option Nat}{vv:Value}(hd:bh U w none (.row n esz lo hi) vv){ds:List (List Dt)}(QZ:m[n]? =some (.row esz (ds.map λd=>d.map .aa))){l:List MO}(hl:mw kv (.dV (bV ds lo hi)) es=some l)(hK:K .undef ((m.set n .aS).set id (.mo esz l none))):
  dh P (do Instr.mapUpdate t (.map (some (U.aH (.al id)).b)) kv vv;pure Next.skip) U m w K:=by
 have sJ:=mG hk;have gI:=oq gO;obtain⟨bx,clock,⟨hb,re⟩,fe,lw⟩:=hM.bk id _ de;have Ot:=Ab fe;have dn:=fe.1;have ot:∀o,eS w {w with heap:=w.heap.setIfInBounds (U.aH (.al id)).b o} (U.aH (.al id)).b:=λo=>
  ⟨λb dt=>(heap_set (o':=o) hb).2 b dt,aC,rfl,rfl,rfl⟩
 have iy:∀(sI:Array MapEntry)(kR j:Nat),iV sI kR->(Instr.mapUpdate t (.map (some (U.aH (.al id)).b)) kv vv).run P w= .ok () {w with heap:=w.heap.setIfInBounds (U.aH (.al id)).b (.map sI kR)}->
   l[j]? =some ⟨kv,.dV (bV ds lo hi)⟩->(∀x,x≠j->l[x]? =es[x]?)->sI.size=l.length->(∀x,x≠j->sI[x]? =bx[x]?)->(∃e,sI[j]? =some e/\e.key=kv/\e.val=vv)->
   dh P (do Instr.mapUpdate t (.map (some (U.aH (.al id)).b)) kv vv;pure Next.skip) U m w K:=by
  intro sI kR j Sq cU h1 h2 h3 h4 h5;obtain⟨U',jc,hX⟩:=hM.rest de QZ h1 Ic h2 hd hb (ot (.map sI kR)) (heap_set hb).1 Sq h3 h4 h5;refine⟨.skip,Go.undef,_,.undef,_,U',?_,.inr ⟨rfl,rfl⟩,hK,jc,rfl,hX⟩;rw[Sem.run_bind,cU];rfl
 rcases uq gO (.dV (bV ds lo hi)) es bx.toList 0 l Ot.1 Ot.2 hl with⟨hf,rfl⟩|⟨j,e',hf,hj,GL,rfl⟩
 .refine iy (bx.push {key:=kv,val:=vv,born:=clock}) (clock+1) es.length (iV.push re) ?_ aC (λx hx=>?_) (by simp[dn]) (λx hx=>?_) ⟨{key:=kv,val:=vv,born:=clock},by rw[acB,if_pos dn.symm],rfl,rfl⟩
  .simp[Instr.mapUpdate,run_underlying ht,Go.MapKept.run_getObj_map hb,run_checkKey sJ gI,run_findKey sJ hf,run_setObj_map _ hb,Result.andThen]
  .rw[List.getElem?_append];split
   .rfl
   .rename_i h;rw[aaZ (by simp;omega),aaZ om]
  .rw[acB,if_neg om]
 .have pu:bx[j]? =some e':=by simpa using hj
  have d8:=(aap.1 pu).1;refine iy (bx.modify j λe=>{e with key:=kv,val:=vv}) clock j (iV.mod re) ?_ (Tr om) (λx hx=>WE (Ne.symm hx)) (by simp[dn]) (λx hx=>by rw[abx,if_neg (Ne.symm hx)]) ⟨{e' with key:=kv,val:=vv},by rw[abx,if_pos rfl,pu];rfl,rfl,rfl⟩
  .rw[abb]at hf;simp[Instr.mapUpdate,run_underlying ht,Go.MapKept.run_getObj_map hb,run_checkKey sJ gI,run_findKey sJ hf,run_setObj_map _ hb,Result.andThen,pu,GL,run_keyThatStays gI]
theorem vU(hM:au U m w)(hE:bi U w aX a.tmps){t kt vt:TypeId}{kk:Ky}{x k v:Operand}{x' k' v':X}(ht:P.underlying t=some (.map kt vt))(hk:xY P kt=some kk)(hx:bm x=some x')(K9:bm k=some k')(hvx:bm v=some v')(h:step P (.vm kk x' k' v') aX m K):dh P (do Instr.mapUpdate t (a.eval x) (a.eval k) (a.eval v);pure Next.skip) U m w K:=by
 have sZ:=aR hE hx;have Ac:=aR hE K9;have pI:=aR hE hvx;simp only[step]at h;generalize a.eval x=xv at sZ|-;generalize a.eval k=kv at Ac|-;generalize a.eval v=vv at pI|-;generalize x'.ev aX=xc at sZ h;split at h
 .rename_i id;generalize k'.ev aX=kc at Ac h;split at h
  .rename_i Vm;rcases cn.1 h with⟨gO,h⟩|⟨_,h⟩
   case inr=>exact h.elim
   obtain⟨rfl,Ic⟩:=bJ Ac (λe=>by subst e;cases kk<;>simp[pq]at gO)
   obtain⟨bk,de,h⟩:=aZ.1 h;rw[aT]at de;split at h
   case h_3=>exact h.elim
   case h_2=>
    rename_i esz es;obtain⟨aD,rfl⟩:=sZ;generalize v'.ev aX=vc at pI h;split at h
    .rename_i n e1 lo hi;obtain⟨b2,fx,h⟩:=aZ.1 h;rw[aT]at fx;split at h
     .rename_i e2 rows;rcases cn.1 h with⟨nX,h⟩|⟨_,h⟩
      case inr=>exact h.elim
      obtain⟨ds,l,rfl,hl,hK⟩:=h;rw[aab]at nX;have h1:=aai nX.1;have h2:=aai nX.2;subst h1 h2;rw[a8,a8]at hK;exact O5 hM ht hk gO Ic de pI fx hl hK
     .exact h.elim
    .exact h.elim
   rename_i es;obtain⟨r,hr,h⟩:=aZ.1 h;obtain⟨l,hl,hK⟩:=aZ.1 h;rw[a8]at hK;have sJ:=mG hk;have gI:=oq gO;have Uk:=La hr pI;obtain⟨aD,rfl⟩:=sZ;obtain⟨bx,clock,⟨hb,re⟩,dn,fe⟩:=hM.bk id _ de;have ot:∀o,eS w {w with heap:=w.heap.setIfInBounds (U.aH (.al id)).b o} (U.aH (.al id)).b:=λo=>
    ⟨λb dt=>(heap_set (o':=o) hb).2 b dt,aC,rfl,rfl,rfl⟩
   have bY:Live U m (.al id):=⟨_,de,aC,by rintro⟨_,_,e⟩;cases e⟩
   have iy:∀(sI:Array MapEntry)(kR:Nat),iV sI kR->(Instr.mapUpdate t (.map (some (U.aH (.al id)).b)) kv vv).run P w= .ok () {w with heap:=w.heap.setIfInBounds (U.aH (.al id)).b (.map sI kR)}->
     (iz U w U {w with heap:=w.heap.setIfInBounds (U.aH (.al id)).b (.map sI kR)}->D1 U {w with heap:=w.heap.setIfInBounds (U.aH (.al id)).b (.map sI kR)} l sI)->dh P (do Instr.mapUpdate t (.map (some (U.aH (.al id)).b)) kv vv;pure Next.skip) U m w K:=by
    intro sI kR Sq cU hmr;obtain⟨jc,hX⟩:=hM.KN (zX:= .mp l) de bY (ot _) (λg=>⟨sI,kR,⟨(heap_set hb).1,Sq⟩,hmr g⟩) (by
     rintro i' j' esz e ⟨b2,fx,gV⟩;rw[Tr (by rw[<-hM.n];exact aD)]at fx
     cases fx;cases gV)
    refine⟨.skip,Go.undef,_,.undef,_,U,?_,.inr ⟨rfl,rfl⟩,hK,jc,rfl,hX⟩;rw[Sem.run_bind,cU];rfl
   rcases vS (U:=U) (w:=w) gO r es bx.toList 0 l (by simpa using dn) (λi e he=>by
     obtain⟨e',h1,h2⟩:=fe i e he;exact⟨e',by simpa using h1,h2⟩) hl with⟨hf,rfl⟩|⟨j,e',hf,hj,GL,rfl⟩
   .refine iy (bx.push {key:=kv,val:=vv,born:=clock}) (clock+1) (iV.push re) ?_ λg=>⟨by simp[dn],λi e he=>?_⟩
    .simp[Instr.mapUpdate,run_underlying ht,Go.MapKept.run_getObj_map hb,run_checkKey sJ gI,run_findKey sJ hf,run_setObj_map _ hb,Result.andThen]
    .rcases aad i es.length with h1|h1
     .rw[Yf h1]at he;obtain⟨e',h2,h3,h4⟩:=fe i e he;exact⟨e',by rw[acB,if_neg om];exact h2,h3,h4.cm g⟩
     .have hi:=(I4.1 he).1;simp at hi;have m9:i=es.length:=om;subst m9;simp at he;subst he;exact⟨_,by rw[acB,if_pos dn.symm],rfl,Uk.cm g⟩
   .have pu:bx[j]? =some e':=by simpa using hj
    have d8:=(aap.1 pu).1;refine iy (bx.modify j λe=>{e with key:=kv,val:=vv}) clock (iV.mod re) ?_ λg=>⟨by simp[dn],λi e he=>?_⟩
    .rw[abb]at hf;simp[Instr.mapUpdate,run_underlying ht,Go.MapKept.run_getObj_map hb,run_checkKey sJ gI,run_findKey sJ hf,run_setObj_map _ hb,Result.andThen,pu,GL,run_keyThatStays gI]
    .rw[abl]at he;by_cases rh:j=i
     .subst rh;rw[if_pos rfl,if_pos om]at he;cases he;exact⟨{e' with key:=kv,val:=vv},by rw[abx,if_pos rfl,pu];rfl,rfl,Uk.cm g⟩
     .rw[if_neg rh]at he;obtain⟨e2,h2,h3,h4⟩:=fe i e he;exact⟨e2,by rw[abx,if_neg rh];exact h2,h3,h4.cm g⟩
  .exact h.elim
 .exact h.elim
theorem au.still(hM:au U m w){id:Nat}{es:List ME}(hb:m[id]? =some (.mp es)):au {U with S:=λb=>U.S b\/b=(U.aH (.al id)).b} (m.set id .aS) w/\Ext U m w {U with S:=λb=>U.S b\/b=(U.aH (.al id)).b} (m.set id .aS) w:=by
 have aD:id<m.length:=(I4.1 hb).1;have bY:Live U m (.al id):=⟨_,hb,aC,by rintro⟨_,_,e⟩;cases e⟩
 have g:iz U w {U with S:=λb=>U.S b\/b=(U.aH (.al id)).b} w:=⟨Ts _,λ_ _=>rfl,λ_ h=>.inl h,λb hb=>rfl⟩
 have get:∀{k:Nat}{b:Bk},(m.set id .aS)[k]? =some b->(k≠id/\m[k]? =some b)\/(k=id/\b= .aS):=by
  intro k b hb;by_cases hk:k=id
  .subst hk;rw[Tr aD]at hb;exact .inr ⟨rfl,by simpa using hb.symm⟩
  .rw[WE (Ne.symm hk)]at hb;exact .inl ⟨hk,hb⟩
 have dY:∀{k i j esz e},dM (m.set id .aS) k i j esz e->dM m k i j esz e:=by
  intro k i j esz e ho;obtain⟨b2,hb,ho⟩:=ho;rcases get hb with⟨_,hb⟩|⟨_,hb⟩
  .exact⟨b2,hb,ho⟩
  .subst hb;cases ho
 have df:∀k,Live {U with S:=λb=>U.S b\/b=(U.aH (.al id)).b} (m.set id .aS) k->Live U m k/\k≠.al id:=by
  intro k hk;cases k with
  |al k=>
   obtain⟨b,hb,hn,bc⟩:=hk;rcases get hb with⟨dt,hb⟩|⟨_,rfl⟩
   .exact⟨⟨b,hb,hn,bc⟩,λe=>by cases e;exact dt rfl⟩
   .exact absurd rfl hn
  |sub k i j=>
   obtain⟨⟨esz,e,ho⟩,bc⟩:=hk;exact⟨⟨⟨esz,e,dY ho⟩,bc⟩,λe=>by cases e⟩
 refine⟨⟨by simp[hM.n],?_,?_,λk k' hk fU=>hM.inj k k' (df k hk).1 (df k' fU).1,?_,?_⟩,
  ⟨Ts _,λ_ _=>rfl,λ_ h=>.inl h,?_,λk hk=>.inr ⟨k,(df k hk).1,rfl⟩,λ_ _ _=>rfl,Ts _,rfl,rfl,rfl⟩⟩
 .rintro b (h|rfl)
  .exact hM.S b h
  .exact(hM.aQ _ bY).1
 .intro k hk;obtain⟨h1,h2⟩:=df k hk;refine⟨(hM.aQ k h1).1,?_⟩;rintro(h|h)
  .exact(hM.aQ k h1).2 h
  .exact h2 (hM.inj k _ h1 bY h)
 .intro k b hb;rcases get hb with⟨_,hb⟩|⟨_,rfl⟩
  .exact(hM.bk k b hb).cm g (hM.eC hb) λ_ _=>rfl
  .trivial
 .intro k i j esz e ho bc;exact(hM.dV k i j esz e (dY ho) bc).cm g rfl
 .rintro b (h|rfl)
  .exact .inl h
  .exact .inr (.inr ⟨_,bY,rfl⟩)
theorem ri:∀{es:List ME}{l:List (Value×Value)},qV es=some l->∀(bx:List MapEntry),bx.length=es.length->(∀(i:Nat)e,es[i]? =some e->∃e',bx[i]? =some e'/\e'.key=e.key/\dq U w e.val e'.val)->
  bx.map (λe=>(e.key,e.val))=l/\∀p,p∈l->cE p.1=true/\cE p.2=true
 | [],l,h,bx,hl,hr=>by
  simp[qV]at h;subst h;have:bx=[]:=acN.1 (by simpa using hl)
  subst this;simp
 |e::r,l,h,[],hl,hr=>by simp at hl
 |e::r,l,h,e'::r',hl,hr=>by
  obtain⟨k,v⟩:=e;unfold qV at h;split at h
  .rename_i heq;cases heq
  .rename_i k1 v1 r1 heq;cases heq;split at h
   .rename_i hp;rw[aab]at hp;obtain⟨l1,yB,rfl⟩:=aao.1 h;obtain⟨a1,a2⟩:=ri yB r' (by simpa using hl) (λi e he=>by simpa using hr (i+1) e (by simpa using he))
    obtain⟨e0,h0,h1,h2⟩:=hr 0 _ rfl;simp only[ab5,aam]at h0;subst h0;have h3:e'.val=v1:=(bJ (U:=U) (w:=w) h2 (λe=>by subst e;simp[cE]at hp)).1
    refine⟨by rw[aa9,a1,h1,h3],λp Kb=>?_⟩
    rcases aa1.1 Kb with rfl|Kb
    .exact hp
    .exact a2 p Kb
   .cases h
  .cases h
theorem Sr(hM:au U m w){t kt vt:TypeId}(ht:P.underlying t=some (.map kt vt)){id esz:Nat}{es:List MO}(de:m[id]? =some (.mo esz es none))(h:∀(st:List Nat)(gU:Nat),st.length=es.length->st.Nodup->(∀s,s∈st->s<gU)->nc m λn=>K (.rv (.one (.ptr n 0))) (gh (aW m id (.mo esz es (some (st,gU)))) [.iw id gU []])):
  dh P (do pure (Next.value (<-Instr.range t (.map (some (U.aH (.al id)).b))))) U m w K:=by
 obtain⟨bx,clock,⟨hb,re⟩,fe,lw⟩:=hM.bk id _ de;have pw:id<m.length:=(I4.1 de).1;have h:=h (bx.toList.map (·.born)) clock (by simpa using fe.1) re.2 (λs hs=>by obtain⟨e,he,rfl⟩:=aak.1 hs;exact re.1 e he)
 rw[gx,bX,a8]at h;have bY:Live U m (.al id):=⟨_,de,aC,by rintro⟨_,_,e⟩;cases e⟩
 obtain⟨rk,l8⟩:=hM.KN (zX:= .mo esz es (some (bx.toList.map (·.born),clock))) de bY (eS.refl w _) (λg=>⟨bx,clock,⟨hb,re⟩,fe,λst gU e=>by cases e;exact⟨rfl,rfl⟩⟩) (by rintro i' j' qW e ⟨b2,fx,gV⟩;rw[Tr pw]at fx;cases fx;obtain⟨k,hi,rfl,rfl⟩:=gV.QL;exact⟨_,de,.mo hi⟩)
 let lo:vl:=⟨w.heap.size,0,0,0⟩;have hn:=rk.n;have bM:(U.push lo).aH (.al (m.set id (.mo esz es (some (bx.toList.map (·.born),clock)))).length)=lo:=by rw[<-hn];exact bF.fN _ lo
 obtain⟨h1,h2⟩:=rk.push (bk:= .iw id clock []) (l:=lo) (eu.alloc w (.mapIter (some (U.aH (.al id)).b) clock #[] clock)) (Ts _) (by simp[lo]) (by
  refine⟨by show id<U.n+1;rw[hM.n];omega,by rw[bM],#[],?_,rfl⟩
  rw[bM,U.eD lo (k:= .al id) (by show id<U.n;rw[hM.n];exact pw)]
  exact(heap_alloc w _).1) trivial
 refine⟨_,.pointer (some ⟨w.heap.size,0,none⟩),w.alloc (.mapIter (some (U.aH (.al id)).b) clock #[] clock),_,_,_,?_,.inl rfl,h,h1,?_,l8.trans h2⟩
 .rw[Sem.run_bind,run_range_map w t kt vt (U.aH (.al id)).b bx clock ht hb];rfl
 .have bM:(U.push lo).aH (.al m.length)=lo:=by rw[<-hM.n];exact bF.fN U lo
  refine⟨by show m.length<U.n+1;rw[hM.n];omega,?_⟩
  rw[bM]
theorem Ss(hM:au U m w){ty:TypeId}{id mid gU:Nat}{seen:List Nat}(de:m[id]? =some (.iw mid gU seen)){esz:Nat}{es:List MO}{st:List Nat}{c2:Nat}(Su:m[mid]? =some (.mo esz es (some (st,c2))))(hc:c2=gU)(Lb:(∀s,s∈st->s∈seen)->K (.bz [.one (.aa (.val (.bool false)))]) (aW m mid (.mo esz es none)))(nH:∀(i:Nat)(x:MO)(s:Nat),es[i]? =some x->st[i]? =some s->¬s∈seen->K (.bz [.one (.aa (.val (.bool true))),.one (.aa (.val x.key)),.one .ap]) (aW m id (.iw mid gU (s::seen)))):
  dh P (do pure (Next.value (<-Instr.next (.pointer (some ⟨(U.aH (.al id)).b,0,none⟩)) false ty))) U m w K:=by
 subst hc;obtain⟨Vn,h2,s,h3,Er⟩:=hM.bk id _ de;obtain⟨bx,clock,⟨hb,re⟩,fe,lw⟩:=hM.bk mid _ Su;obtain⟨ib,Lc⟩:=lw _ _ rfl;clear lw;have lw:=Lc;subst ib;have pw:id<m.length:=(I4.1 de).1;have Vo:mid<m.length:=(I4.1 Su).1;have bY:Live U m (.al id):=⟨_,de,aC,by rintro⟨_,_,e⟩;cases e⟩
 have Sv:Live U m (.al mid):=⟨_,Su,aC,by rintro⟨_,_,e⟩;cases e⟩
 have iD:∀x,x∈seen↔x∈s.toList:=λx=>by rw[<-Er];simp
 rcases run_next_at (P:=P) w ty (U.aH (.al id)).b (U.aH (.al mid)).b clock clock s bx clock h3 hb re.1 (Ts _)with⟨h0,cU⟩|⟨e,he,w1,Ul,cU⟩
 .have hK:=Lb λx hx=>by
   rw[iD];rw[<-lw]at hx;obtain⟨e,he,rfl⟩:=aak.1 hx;have Um:(leftOf bx s).toList=[]:=acN.1 (by simpa using h0)
   have Um:(bx.filter λe=>!s.contains e.born).toList=[]:=Um
   rw[Array.toList_filter,List.filter_eq_nil_iff]at Um;have:=Um e he;simpa using this
  rw[a8]at hK;obtain⟨rk,l8⟩:=hM.KN (zX:= .mo esz es none) Su Sv (eS.refl w _) (λg=>⟨bx,clock,⟨hb,re⟩,fe,aC⟩) (by rintro i' j' qW e ⟨b2,fx,gV⟩;rw[Tr Vo]at fx;cases fx;obtain⟨k,hi,rfl,rfl⟩:=gV.QL;exact⟨_,Su,.mo hi⟩)
  refine⟨_,.tuple #[.bool false],w,_,_,U,by rw[Sem.run_bind,cU];rfl,.inl rfl,hK,rk,⟨[.bool false],rfl,rfl,λi r hi=>?_⟩,l8⟩
  match i,hi with
  |0,hi=>cases hi;exact⟨_,rfl,.val _ rfl⟩
 .have he:e∈(bx.filter λe=>!s.contains e.born).toList:=he
  rw[Array.toList_filter,ab6]at he;obtain⟨hem,YT⟩:=he;obtain⟨i,hi⟩:=Xt hem;have x4:i<es.length:=by have:=(I4.1 hi).1;rw[<-fe.1];simpa using this
  obtain⟨x,hx⟩:∃x,es[i]? =some x:=⟨_,uX x4⟩;obtain⟨e1,g1,g2,g3,g4⟩:=fe.2 i x hx;have:e1=e:=by rw[<-abB,hi]at g1;cases g1;rfl
  subst this;have hK:=nH i x e1.born hx (by rw[<-lw,RA,hi];rfl) (by rw[iD];simpa using YT)
  rw[a8]at hK;have hh:w1.heap=w.heap/\w1.os=w.os/\w1.tape=w.tape/\w1.output=w.output:=by rcases Ul with rfl|rfl<;>exact⟨rfl,rfl,rfl,rfl⟩
  have O6:(U.aH (.al id)).b<w.heap.size:=(hM.aQ _ bY).1;have ot:eS w (Go.ChangeMaps.setBlock w1 (U.aH (.al id)).b (.mapIter (some (U.aH (.al mid)).b) clock (s.push e1.born) clock)) (U.aH (.al id)).b:=
   ⟨λb dt=>by show(w1.heap.setIfInBounds _ _)[b]? =_;rw[hh.1,ab8 (Ne.symm dt)],by show(w1.heap.setIfInBounds _ _).size=_;rw[Array.size_setIfInBounds,hh.1],hh.2.1,hh.2.2.1,hh.2.2.2⟩
  obtain⟨jc,hX⟩:=hM.KN (zX:= .iw mid clock (e1.born::seen)) de bY ot (λg=>⟨Vn,h2,s.push e1.born,by
    show(w1.heap.setIfInBounds _ _)[_]? =_;rw[hh.1,abY O6],by simp[Er]⟩) (by
   rintro i' j' qW e ⟨b2,fx,gV⟩;rw[Tr pw]at fx;cases fx;cases gV)
  have Ld:=(g4.one:e1.val.oneCell'=true);refine⟨_,.tuple #[.bool true,e1.key,e1.val],_,_,_,U,by rw[Sem.run_bind,cU];rfl,.inl rfl,hK,jc,⟨[.bool true,e1.key,e1.val],rfl,rfl,λi r hi=>?_⟩,hX⟩
  match i,hi with
  |0,hi=>cases hi;exact⟨_,rfl,.val _ rfl⟩
  |1,hi=>cases hi;exact⟨_,rfl,by rw[g2];exact .val _ g3⟩
  |2,hi=>cases hi;exact⟨_,rfl,Ld⟩
theorem Sw(hM:au U m w){id mid gU:Nat}{s:Nat}{seen:List Nat}(de:m[id]? =some (.iw mid gU (s::seen))){esz:Nat}{es:List MO}{st:List Nat}{c2:Nat}(Su:m[mid]? =some (.mo esz es (some (st,c2))))(hc:c2=gU){i:Nat}{x:MO}(hx:es[i]? =some x)(hs:st[i]? =some s)(hK:K (.bz [.one (.aa (.val x.key)),.one .ap]) m):
  dh P (do pure (Next.value (<-Instr.entry (.pointer (some ⟨(U.aH (.al id)).b,0,none⟩))))) U m w K:=by
 subst hc;obtain⟨Vn,h2,s0,h3,Er⟩:=hM.bk id _ de;obtain⟨bx,clock,⟨hb,re⟩,fe,lw⟩:=hM.bk mid _ Su;obtain⟨ib,Lc⟩:=lw _ _ rfl;clear lw;have lw:=Lc;subst ib;obtain⟨e,g1,g2,g3,g4⟩:=fe.2 i x hx;have nX:e.born=s:=by rw[<-lw,RA,abB,g1]at hs;simpa using hs
 have hs0:s0=(Array.mk seen.reverse).push e.born:=by apply Array.toList_inj.1;have:=congrArg List.reverse Er;simp at this;simp[this,nX]
 have cU:=run_entry_at (P:=P) w (U.aH (.al id)).b (U.aH (.al mid)).b clock (Array.mk seen.reverse) bx clock e (by rw[<-hs0];exact h3) hb (by rw[<-abB]at g1;exact RD g1) re.2
 have Ld:=(g4.one:e.val.oneCell'=true);refine dh.pure hM (v:= .tuple #[e.key,e.val]) (by rw[Sem.run_bind,cU];rfl) hK ⟨[e.key,e.val],rfl,rfl,λi r hi=>?_⟩
 match i,hi with
 |0,hi=>cases hi;exact⟨_,rfl,by rw[g2];exact .val _ g3⟩
 |1,hi=>cases hi;exact⟨_,rfl,Ld⟩
theorem Et(hM:au U m w)(hE:bi U w aX a.tmps){t kt vt t2:TypeId}{ats:Array TypeId}{kk:Ky}{x k:Operand}{x' k':X}(Vp:ats[0]? =some t)(ht:P.underlying t=some (.map kt vt))(hk:xY P kt=some kk)(hx:bm x=some x')(K9:bm k=some k')(h:step P (.Kz kk x' k') aX m K):dh P (do pure (Next.value (<-Builtin.delete_ ats t2 #[a.eval x,a.eval k]))) U m w K:=by
 have sZ:=aR hE hx;have Ac:=aR hE K9;simp only[step]at h;generalize a.eval x=xv at sZ|-;generalize a.eval k=kv at Ac|-;generalize x'.ev aX=xc at sZ h;split at h
 .rename_i id;generalize k'.ev aX=kc at Ac h;split at h
  .rename_i Vm;rcases cn.1 h with⟨gO,h⟩|⟨_,h⟩
   case inr=>exact h.elim
   obtain⟨rfl,Ic⟩:=bJ Ac (λe=>by subst e;cases kk<;>simp[pq]at gO)
   obtain⟨bk,de,h⟩:=aZ.1 h;rw[aT]at de;split at h
   .rename_i esz es st gU;obtain⟨o,ho,h⟩:=aZ.1 h;have sJ:=mG hk;have gI:=oq gO;obtain⟨aD,rfl⟩:=sZ;obtain⟨bx,clock,⟨hb,re⟩,fe,lw⟩:=hM.bk id _ de;obtain⟨ib,Lc⟩:=lw _ _ rfl;clear lw;have lw:=Lc;subst ib;have Ot:=Ab fe;have hf:=nj gO es bx.toList 0 o Ot.1 Ot.2 ho;have bY:Live U m (.al id):=⟨_,de,aC,by rintro⟨_,_,e⟩;cases e⟩
    have ot:∀o,eS w {w with heap:=w.heap.setIfInBounds (U.aH (.al id)).b o} (U.aH (.al id)).b:=λo=>
     ⟨λb dt=>(heap_set (o':=o) hb).2 b dt,aC,rfl,rfl,rfl⟩
    have pw:id<m.length:=(I4.1 de).1;cases o with
    |none=>
     have jg:m.set id (.mo esz es (some (st,clock)))=m:=by
      apply abF;intro i;by_cases hh:id=i
      .subst hh;rw[Tr pw,de]
      .rw[WE hh]
     have cU:(Builtin.delete_ ats t2 #[.map (some (U.aH (.al id)).b),kv]).run P w= .ok (.tuple #[]) {w with heap:=w.heap.setIfInBounds (U.aH (.al id)).b (.map bx clock)}:=by simp[Builtin.delete_,Vp,run_underlying ht,Go.MapKept.run_getObj_map hb,run_checkKey sJ gI,run_findKey sJ hf,run_setObj_map _ hb,Result.andThen]
     obtain⟨jc,hX⟩:=hM.KN (zX:= .mo esz es (some (st,clock))) de bY (ot (.map bx clock)) (λg=>by
      refine⟨bx,clock,⟨(heap_set hb).1,re⟩,⟨fe.1,λi e hi=>?_⟩,λst gU e=>by cases e;exact⟨rfl,lw⟩⟩
      obtain⟨e',q1,q2,q3,q4⟩:=fe.2 i e hi;exact⟨e',q1,q2,q3,q4.cm g (λa b c e=>by cases e;exact aD)⟩) (by
      rintro i' j' qW e ⟨b2,fx,gV⟩;rw[jg]at fx;exact⟨b2,fx,gV⟩)
     rw[jg]at jc hX;exact⟨_,.tuple #[],_,_,_,U,by rw[Sem.run_bind,cU];rfl,.inl rfl,h,jc,⟨[],rfl,rfl,aC⟩,hX⟩
    |some r=>
     obtain⟨j,mv⟩:=r;obtain⟨i,e',hj,hi,mr,hf⟩:=hf;have hj:j=i:=om;subst hj;have x4:=(I4.1 hi).1;have YU:j<bx.size:=by rw[fe.1];exact x4
     rw[abb]at hf;have cU:(Builtin.delete_ ats t2 #[.map (some (U.aH (.al id)).b),kv]).run P w= .ok (.tuple #[]) {w with heap:=w.heap.setIfInBounds (U.aH (.al id)).b (.map (bx.eraseIdxIfInBounds j) clock)}:=by simp[Builtin.delete_,Vp,run_underlying ht,Go.MapKept.run_getObj_map hb,run_checkKey sJ gI,run_findKey sJ hf,run_setObj_map _ hb,Result.andThen]
     have GM:(bx.eraseIdxIfInBounds j).toList=bx.toList.eraseIdx j:=by simp[Array.eraseIdxIfInBounds,YU]
     have hbo:(bx.eraseIdxIfInBounds j).toList.map (·.born)=(bx.toList.map (·.born)).eraseIdx j:=by rw[GM];exact Go.ChangeMaps.map_eraseIdx _ _ _
     simp only[a8]at h;obtain⟨U',jc,hX⟩:=hM.YQ (Q1:=some (st.eraseIdx j,clock)) de x4 hb (ot (.map (bx.eraseIdxIfInBounds j) clock)) (heap_set hb).1
      ⟨λe he=>re.1 e (by rw[GM]at he;exact List.mem_of_mem_eraseIdx he),by rw[hbo];exact re.2.eraseIdx j⟩ GM (λst gU e=>by cases e;exact⟨rfl,by rw[hbo,lw]⟩)
     exact⟨_,.tuple #[],_,_,_,U',by rw[Sem.run_bind,cU];rfl,.inl rfl,h,jc,⟨[],rfl,rfl,aC⟩,hX⟩
   .exact h.elim
  .exact h.elim
 .exact h.elim
theorem Ii(hM:au U m w)(hE:bi U w aX a.tmps){t kt vt:TypeId}{x:Operand}{x':X}(ht:P.underlying t=some (.map kt vt))(hx:bm x=some x')(h:step P (.UN x') aX m K):dh P (do pure (Next.value (<-Instr.range t (a.eval x)))) U m w K:=by
 have sZ:=aR hE hx;simp only[step]at h;generalize a.eval x=xv at sZ|-;split at h
 .rename_i id heq;rw[heq]at sZ;obtain⟨bk,de,h⟩:=aZ.1 h;rw[aT]at de;split at h
  case h_3=>exact h.elim
  case h_2=>
   rename_i esz es;obtain⟨aD,rfl⟩:=sZ;exact Sr hM ht de h
  rename_i es;obtain⟨l,hl,h⟩:=aZ.1 h;rw[gx,bX,a8]at h;obtain⟨aD,rfl⟩:=sZ;obtain⟨bx,clock,⟨hb,re⟩,dn,fe⟩:=hM.bk id _ de;obtain⟨rk,l8⟩:=hM.still de;have GN:=ri (U:=U) (w:=w) hl bx.toList (by simpa using dn) (λi e he=>by
   obtain⟨e',h1,h2⟩:=fe i e he;exact⟨e',by simpa using h1,h2⟩)
  let lo:vl:=⟨w.heap.size,0,0,0⟩;have hn:=rk.n;have hmb:=rk.S _ (.inr rfl);obtain⟨h1,h2⟩:=rk.push (bk:= .it [] l) (l:=lo) (eu.alloc w (.mapIter (some (U.aH (.al id)).b) clock #[] clock)) (Ts _) (by simp[lo]) (by
   have bM:(bF.push {U with S:=λb=>U.S b\/b=(U.aH (.al id)).b} lo).aH (.al (m.set id .aS).length)=lo:=by rw[<-hn];exact bF.fN _ lo
   refine⟨(U.aH (.al id)).b,#[],clock,bx,?_,?_,.inr rfl,?_,re,?_,aC,λp hp=>GN.2 p (by simpa using hp)⟩
   .rw[bM];exact(heap_alloc w _).1
   .rw[bM]
   .exact((heap_alloc w _).2 _ hmb).trans hb
   .rw[<-GN.1];congr 2;exact Array.filter_eq_self.2 aC) trivial
  refine⟨_,.pointer (some ⟨w.heap.size,0,none⟩),w.alloc (.mapIter (some (U.aH (.al id)).b) clock #[] clock),_,_,_,?_,.inl rfl,h,h1,?_,l8.trans h2⟩
  .rw[Sem.run_bind,run_range_map w t kt vt (U.aH (.al id)).b bx clock ht hb];rfl
  .have bM:(bF.push {U with S:=λb=>U.S b\/b=(U.aH (.al id)).b} lo).aH (.al m.length)=lo:=by
    have:=bF.fN {U with S:=λb=>U.S b\/b=(U.aH (.al id)).b} lo
    rw[<-hM.n];exact this
   refine⟨by show m.length<U.n+1;rw[hM.n];omega,?_⟩
   rw[bM]
 .exact h.elim
theorem vV:∀{L:List MapEntry}{i:Nat}{e:MapEntry},L[i]? =some e->(L.map (·.born)).Nodup->L.filter (λx=>!(x.born==e.born))=L.eraseIdx i
 | [],i,e,h,_=>by simp at h
 |x::r,0,e,h,hn=>by
  simp only[ab5,aam]at h;subst h;rw[aa9,abJ]at hn;rw[abW,if_neg aC,List.eraseIdx_zero,List.tail_cons];refine acq.2 λy hy=>?_
  have:y.born≠x.born:=λhe=>hn.1 (he▸aak.2 ⟨y,hy,rfl⟩)
  simpa using this
 |x::r,i+1,e,h,hn=>by
  simp only[abA]at h;rw[aa9,abJ]at hn;have:x.born≠e.born:=λhe=>hn.1 (he▸aak.2 ⟨e,RD h,rfl⟩)
  rw[abW,if_pos (by simpa using this),List.eraseIdx_cons_succ,vV h hn.2]
theorem Ij{bx:Array MapEntry}{clock:Nat}(hb:iV bx clock){seen:Array Nat}{i:Nat}{e:MapEntry}(h:(bx.filter λe=>!seen.contains e.born).toList[i]? =some e):
  (bx.filter λx=>!(seen.push e.born).contains x.born).toList=(bx.filter λe=>!seen.contains e.born).toList.eraseIdx i:=by
 have e0:(bx.filter λe=>!seen.contains e.born).toList=bx.toList.filter λe=>!seen.contains e.born:=aC
 have e1:(bx.filter λx=>!(seen.push e.born).contains x.born).toList=bx.toList.filter λx=>!(seen.push e.born).contains x.born:=aC
 rw[e0]at h|-;rw[e1,<-vV h ((List.filter_sublist.map _).nodup hb.2),List.filter_filter];congr 1;funext x;by_cases h1:x.born=e.born<;>simp[h1,Array.contains_push,Bool.and_comm]
theorem Ik(hM:au U m w)(hE:bi U w aX a.tmps){ty:TypeId}{x:Operand}{x':X}(hx:bm x=some x')(h:step P (.sH x') aX m K):dh P (do pure (Next.value (<-Instr.next (a.eval x) false ty))) U m w K:=by
 have sZ:=aR hE hx;simp only[step]at h;generalize a.eval x=xv at sZ|-;split at h
 .rename_i id heq;rw[heq]at sZ;obtain⟨bk,de,h⟩:=aZ.1 h;rw[aT]at de;split at h
  case h_3=>exact h.elim
  case h_2=>
   rename_i mid gU seen;obtain⟨b2,fx,h⟩:=aZ.1 h;rw[aT]at fx;split at h
   .obtain⟨hc,ho,hs⟩:=h;obtain⟨aD,rfl⟩:=sZ;have h2:=(hM.bk id _ de).2.1;have hp:(Value.pointer (some ⟨(U.aH (.al id)).b,(U.aH (.al id)).ar+0,none⟩))= .pointer (some ⟨(U.aH (.al id)).b,0,none⟩):=by rw[h2]
    rw[hp];exact Ss hM de fx hc ho hs
   .exact h.elim
  rename_i cur left;obtain⟨Lb,nH⟩:=h;obtain⟨aD,rfl⟩:=sZ;obtain⟨mb,seen,clock,bx,h1,h2,h3,h4,h5,h6,h7,h8⟩:=hM.bk id _ de;have bY:Live U m (.al id):=⟨_,de,aC,by rintro⟨_,_,e⟩;cases e⟩
  have hp:(Value.pointer (some ⟨(U.aH (.al id)).b,(U.aH (.al id)).ar+0,none⟩))= .pointer (some ⟨(U.aH (.al id)).b,0,none⟩):=by rw[h2]
  rw[hp];rcases run_next_at (P:=P) w ty (U.aH (.al id)).b mb clock clock seen bx clock h1 h4 h5.1 (Ts _)with⟨h0,cU⟩|⟨e,he,w1,Ul,cU⟩
  .refine dh.pure hM (v:= .tuple #[.bool false]) (by rw[Sem.run_bind,cU];rfl) (Lb ?_) ⟨[.bool false],rfl,rfl,λi r hi=>?_⟩
   .rw[<-h6];have:(bx.filter λe=>!seen.contains e.born).toList=[]:=acN.1 (by simpa[leftOf]using h0)
    rw[this];rfl
   .match i,hi with
    |0,hi=>cases hi;exact⟨_,rfl,.val _ rfl⟩
  .obtain⟨i,hi⟩:=Xt he;have hi:(bx.filter λe=>!seen.contains e.born).toList[i]? =some e:=hi
   have hli:left[i]? =some (e.key,e.val):=by rw[<-h6,RA,hi];rfl
   have jD:=h8 _ (.inl (RD hli));have hK:=nH i e.key e.val _ hli rfl;rw[a8]at hK;have hbe:(U.aH (.al id)).b≠mb:=λhh=>(hM.aQ _ bY).2 (hh▸h3)
   have hh:w1.heap=w.heap/\w1.os=w.os/\w1.tape=w.tape/\w1.output=w.output:=by rcases Ul with rfl|rfl<;>exact⟨rfl,rfl,rfl,rfl⟩
   have O6:(U.aH (.al id)).b<w.heap.size:=(hM.aQ _ bY).1;have ot:eS w (Go.ChangeMaps.setBlock w1 (U.aH (.al id)).b (.mapIter (some mb) clock (seen.push e.born) clock)) (U.aH (.al id)).b:=
    ⟨λb dt=>by show(w1.heap.setIfInBounds _ _)[b]? =_;rw[hh.1,ab8 (Ne.symm dt)],by show(w1.heap.setIfInBounds _ _).size=_;rw[Array.size_setIfInBounds,hh.1],hh.2.1,hh.2.2.1,hh.2.2.2⟩
   obtain⟨jc,hX⟩:=hM.KN (zX:= .it [(e.key,e.val)] (left.eraseIdx i)) de bY ot (λg=>⟨mb,seen.push e.born,clock,bx,by
     show(w1.heap.setIfInBounds _ _)[_]? =_;rw[hh.1,abY O6],h2,h3,(ot.heap mb (Ne.symm hbe)).trans h4,h5,by
     rw[Ij h5 hi,<-h6];exact Go.ChangeMaps.map_eraseIdx _ _ _,λp hp=>⟨e,seen,by
      have:e∈(bx.filter λe=>!seen.contains e.born).toList:=RD hi
      simp at this|-;exact this.1,rfl,(ab7.1 hp).symm⟩,λp hp=>by
     rcases hp with hp|hp
     .exact h8 p (.inl (List.mem_of_mem_eraseIdx hp))
     .simp at hp;subst hp;exact jD⟩) (by
     rintro i' j' esz e ⟨b2,fx,gV⟩;rw[Tr (by rw[<-hM.n];exact aD)]at fx
     cases fx;cases gV)
   refine⟨_,.tuple #[.bool true,e.key,e.val],_,_,_,U,by rw[Sem.run_bind,cU];rfl,.inl rfl,hK,jc,⟨[.bool true,e.key,e.val],rfl,rfl,λi r hi=>?_⟩,hX⟩
   match i,hi with
   |0,hi=>cases hi;exact⟨_,rfl,.val _ rfl⟩
   |1,hi=>cases hi;exact⟨_,rfl,.val _ jD.1⟩
   |2,hi=>cases hi;exact⟨_,rfl,.val _ jD.2⟩
 .exact h.elim
theorem Il(hM:au U m w)(hE:bi U w aX a.tmps){x:Operand}{x':X}(hx:bm x=some x')(h:step P (.UO x') aX m K):dh P (do pure (Next.value (<-Instr.entry (a.eval x)))) U m w K:=by
 have sZ:=aR hE hx;simp only[step]at h;generalize a.eval x=xv at sZ|-;split at h
 .rename_i id heq;rw[heq]at sZ;obtain⟨bk,de,h⟩:=aZ.1 h;rw[aT]at de;split at h
  case h_3=>exact h.elim
  case h_2=>
   rename_i mid gU s seen;obtain⟨b2,fx,h⟩:=aZ.1 h;rw[aT]at fx;split at h
   .obtain⟨hc,i,x,hx,hs,hK⟩:=h;obtain⟨aD,rfl⟩:=sZ;have h2:=(hM.bk id _ de).2.1;have hp:(Value.pointer (some ⟨(U.aH (.al id)).b,(U.aH (.al id)).ar+0,none⟩))= .pointer (some ⟨(U.aH (.al id)).b,0,none⟩):=by rw[h2]
    rw[hp];exact Sw hM de fx hc hx hs hK
   .exact h.elim
  .rename_i p tl abt;obtain⟨aD,rfl⟩:=sZ;obtain⟨mb,seen,clock,bx,h1,h2,h3,h4,h5,h6,h7,h8⟩:=hM.bk id _ de;obtain⟨e,Kw,he,rfl,hp⟩:=h7 p aC;have jD:=h8 p (.inr aC);subst hp;have hp:(Value.pointer (some ⟨(U.aH (.al id)).b,(U.aH (.al id)).ar+0,none⟩))= .pointer (some ⟨(U.aH (.al id)).b,0,none⟩):=by rw[h2]
   rw[hp];have cU:=run_entry_at (P:=P) w (U.aH (.al id)).b mb clock Kw bx clock e h1 h4 he h5.2;refine dh.pure hM (v:= .tuple #[e.key,e.val]) (by rw[Sem.run_bind,cU];rfl) h ⟨[e.key,e.val],rfl,rfl,λi r hi=>?_⟩
   match i,hi with
   |0,hi=>cases hi;exact⟨_,rfl,.val _ jD.1⟩
   |1,hi=>cases hi;exact⟨_,rfl,.val _ jD.2⟩
 .exact h.elim
end
end Go.AM
namespace Go.AM
section
variable {P:Program} {U:bF} {m:Mem} {w:World} {aX:List CV} {a:Act} {K:CV->Mem->Prop}
theorem vW{α:Type}{l:List α}{h:Nat}{E:List α}(hle:h+E.length<=l.length):(cP l h E).length=l.length:=by simp[cP];omega
theorem qa{α:Type}{l:List α}{h:Nat}{E:List α}(hle:h+E.length<=l.length)(i:Nat):(cP l h E)[i]? =if h<=i/\i<h+E.length then E[i-h]? else l[i]? :=by
 have hl:(l.take h).length=h:=by simp;omega
 simp only[cP];rcases aad i h with h1|h1
 .rw[Yf om,if_neg om,aa8,if_pos h1]
 .rw[WH om,hl];rcases aad (i-h) E.length with h2|h2
  .rw[Yf h2,if_pos om]
  .rw[WH h2,if_neg om,abp];congr 1;omega
theorem bh.Le{c:CC}{v:Value}{pos:Option (Nat×Nat×Nat)}(hc:c.iY=true)(h:bh U w pos c v):bh U w .none c v:=by
 cases c<;>first|exact h|simp[CC.iY]at hc
theorem s7(hM:au U m w){id esz h:Nat}{rows E:List (List CC)}{vs:List Value}(hb:m[id]? =some (.row esz rows))(hle:h+E.length<=rows.length)(cH:0<rows.length)(hE:∀cs,cs∈E->cs.length=esz)(x9:vs.length=E.length*esz)(Ld:∀u,u∈vs->u.oneCell'=true)(cq:∀(i:Nat)cs(j:Nat)c,E[i]? =some cs->cs[j]? =some c->∃u,vs[i*esz+j]? =some u/\bh U w .none c u):
  ∃w',(storeCells ⟨(U.aH (.al id)).b,(U.aH (.al id)).ar+h*esz,none⟩ vs).run P w= .ok () w'/\au U (m.set id (.row esz (cP rows h E))) w'/\Ext U m w U (m.set id (.row esz (cP rows h E))) w':=by
 have hid:id<m.length:=(I4.1 hb).1;obtain⟨h2,h3,h4,h5,BC⟩:=hM.bk id _ hb;have bc:0<(U.aH (.al id)).cap:=om;obtain⟨cur,bT,h1,hd⟩:=BC bc;have hmul:(h+E.length)*esz<=(U.aH (.al id)).cap*esz:=abh _ om;rw[abr]at hmul;obtain⟨w',gH,hr,q8,ht,dn,hk⟩:=nh (P:=P) (U.aH (.al id)).b ((U.aH (.al id)).ar+h*esz) vs 0 cur w bT (by rw[x9];omega) Ld
 obtain⟨jc,hX⟩:=hM.KN (zX:= .row esz (cP rows h E)) hb ⟨_,hb,aC,λ_=>bc⟩ ht (λg=>⟨by rw[vW hle];exact h2,h3,h4,λcs eB=>by
   obtain⟨i,hi⟩:=Xt eB;rw[qa hle]at hi;split at hi
   .exact hE cs (RD hi)
   .exact h5 cs (RD hi),λ_=>⟨gH,q8,by rw[dn];exact h1,λi cs j c hi hj=>by
  rw[hk];rw[qa hle]at hi;have na:j<esz:=by
   have ib:cs.length=esz:=by
    split at hi
    .exact hE cs (RD hi)
    .exact h5 cs (RD hi)
   rw[<-ib];exact(I4.1 hj).1
  split at hi
  .rename_i iS;obtain⟨u,hu,ct⟩:=cq _ cs j c hi hj;have e1:i*esz=h*esz+(i-h)*esz:=by rw[<-abr];congr 1;omega
   have aD:=(I4.1 hu).1;rw[if_pos om];refine⟨u,?_,(ct.cm g aC).vH _⟩;rw[<-hu];congr 1;omega
  .rename_i iS;obtain⟨u,hu,ct⟩:=hd i cs j c hi hj;have dt:¬((U.aH (.al id)).ar+h*esz+0<=(U.aH (.al id)).ar+i*esz+j/\(U.aH (.al id)).ar+i*esz+j<(U.aH (.al id)).ar+h*esz+0+vs.length):=by
    rw[x9];rcases aad i h with q|q
    .have:(i+1)*esz<=h*esz:=abh _ q;rw[abr,abZ]at this;omega
    .have:(h+E.length)*esz<=i*esz:=abh _ om;rw[abr]at this;omega
   rw[if_neg dt];exact⟨u,hu,ct.cm g (by rintro _ _ _ e;cases e;rw[hM.n];exact hid)⟩⟩⟩) (by
  rintro i' j' qW e ⟨b2,fx,gV⟩;rw[Tr hid]at fx;cases fx;obtain⟨XM,eO,lA⟩:=gV.xV;rw[qa hle]at eO;split at eO
  .obtain⟨u,hu,ct⟩:=cq _ _ _ _ eO lA;exact absurd rfl (ct.zV _ _)
  .exact⟨_,hb,.row eO lA⟩)
 exact⟨w',hr,jc,hX⟩
theorem vX:∀{cs:List CC},pZ cs=true->∀c,c∈cs->c.iY=true
 | [],_,c,h=>by simp at h
 |x::r,h,c,hc=>by
  simp only[pZ,aab]at h;rcases aa1.1 hc with rfl|hc
  .exact h.1
  .exact vX h.2 c hc
theorem pJ:∀{E:List (List CC)},fo E=true->∀cs,cs∈E->pZ cs=true
 | [],_,c,h=>by simp at h
 |x::r,h,c,hc=>by
  simp only[fo,aab]at h;rcases aa1.1 hc with rfl|hc
  .exact h.1
  .exact pJ h.2 c hc
theorem pK{E:List (List CC)}(h:fo E=true){i j:Nat}{cs:List CC}{c:CC}(hi:E[i]? =some cs)(hj:cs[j]? =some c):c.iY=true:=
 vX (pJ h cs (RD hi)) c (RD hj)
theorem B8(hM:au U m w){t t2 ty e e2:TypeId}{i:TypeInfo}{z:List CC}{v v2:Value}{c2:CV}{id h:Nat}{rows E2:List (List CC)}(ht:P.underlying t=some (.slice e))(vM:P.underlying t2=some (.slice e2))(hi:P.info? e=some i)(hz:dW P e=some z)(dn:i.size=z.length)(hb:0<i.bytes)(hd:bZ U w (.rv (.one (.row id i.size 0 (some h)))) v)(pG:bZ U w c2 v2)(de:m[id]? =some (.row i.size rows))(DQ:fl m i.size c2=some E2)(cH:0<rows.length)(hle:h+E2.length<=rows.length)(jS:fo E2=true)(kn:rows.length*i.bytes<=140737488355328)(hK:K (.rv (.one (.row id i.size 0 (some (h+E2.length))))) (m.set id (.row i.size (cP rows h E2)))):
  dh P (do pure (Next.value (<-Builtin.append_ #[t,t2] ty #[v,v2]))) U m w K:=by
 have hid:id<m.length:=(I4.1 de).1;have z8:fl m i.size (.rv (.one (.row id i.size 0 (some h))))=some (bV rows 0 (some h)):=by simp[fl,aT,de]
 obtain⟨OT,ko,Ue,Em,U8,OU,F1⟩:=ni hM z8 hd;obtain⟨ad2,KY,KZ,uR,U9,Va,F2⟩:=ni hM DQ pG;have DN:=hz;simp only[dW,RX,N0]at DN;obtain⟨i',ew,zv,OV,OR⟩:=DN;rw[hi]at ew;cases ew;have Vq:(bV rows 0 (some h)).length=h:=by rw[jv];simp;omega
 rw[Vq]at Em U8;have Vr:(h+E2.length)*i.bytes<=140737488355328:=abH (abh _ hle) kn;have cU:=ol (P:=P) (w:=w) (ty:=ty) ht vM hi OV (a0:=OT) (n1:=h) (c1:=ko) (n2:=E2.length) (src:=v2) (olds:=Ue) (news:=KZ)
  (by rw[uR];rfl) (λk=>by rw[uR];exact F2.firstCells KY k) (λk=>by have:=F1.firstCells (P:=P) ko k;rwa [Vq]at this) hb Vr
 obtain⟨r2,r3,r4,r5,H9⟩:=hM.bk id _ de;obtain⟨aD,d1,d2,d3,d4,ad,OZ,uN⟩:=hd;rw[OZ]at Em;injection Em with q1 q2 q3
 simp only[acb]at q3;have BD:h+E2.length<=ko:=by rw[<-q3];clear H9;omega
 have sY:=uN (by clear H9;omega)
 rw[if_pos BD]at cU;obtain⟨w',lw,jc,hX⟩:=s7 (P:=P) hM (h:=h) (E:=E2) (vs:=KZ) de hle cH F2.lE F2.len F2.one (λk cs j c hk hj=>by obtain⟨u,hu,ct⟩:=F2.jR k cs j c hk hj;exact⟨u,hu,ct.Le (pK jS hk hj)⟩)
 refine⟨.value (.slice OT (h+E2.length) ko),_,w',.rv (.one (.row id i.size 0 (some (h+E2.length)))),_,U,?_,.inl rfl,hK,jc,?_,hX⟩
 .rw[OZ,q1,q2,show(U.aH (.al id)).cap-0=ko by simpa using q3,Sem.run_bind,cU]
  rw[<-q1,sY];simp only[yE,l7,acV,acm];rw[lw];rfl
 .refine⟨aD,aaj _,?_,d3,d4,OT,?_,λh0=>by rw[<-q1];exact uN h0⟩
  .show h+E2.length<=_;clear H9;omega
  .simp only[abC,acb];rw[q3]
theorem B9(hM:au U m w){t ty e:TypeId}{i:TypeInfo}{z:List CC}{v:Value}{id lo hi:Nat}{rows:List (List CC)}(ht:P.underlying t=some (.slice e))(ew:P.info? e=some i)(hz:dW P e=some z)(dn:i.size=z.length)(hd:bZ U w (.rv (.one (.row id i.size lo (some hi)))) v)(de:m[id]? =some (.row i.size rows))(gY:lo<hi)(hle:hi<=rows.length)(hK:K (.bz []) (m.set id (.row i.size (cP rows lo (gw (hi-lo) z))))):
  dh P (do pure (Next.value (<-Builtin.clear_ #[t] ty #[v]))) U m w K:=by
 have hid:id<m.length:=(I4.1 de).1;have DN:=hz;simp only[dW,RX,N0]at DN;obtain⟨i',eO,zv,OV,OR⟩:=DN;rw[ew]at eO;cases eO;obtain⟨YS,Oo⟩:=eZ (U:=U) (w:=w) OR;have Oq:zv.cells.size=z.length:=by simpa using YS
 obtain⟨r2,r3,r4,r5,H9⟩:=hM.bk id _ de;obtain⟨aD,d1,d2,d3,d4,ad,OZ,uN⟩:=hd;have sY:=uN (by clear H9;omega)
 have hrl:(gw (hi-lo) z).length=hi-lo:=by rw[fH];simp
 obtain⟨w',lw,jc,hX⟩:=s7 (P:=P) hM (h:=lo) (E:=gw (hi-lo) z) (vs:=(Builtin.zeroCells zv.cells (hi-lo)).toList) de (by rw[hrl];omega) om
  (λcs eB=>by rw[fH]at eB;rw[ab9 eB,dn]) (by rw[hrl,abS,size_zeroCells,Oq,dn])
  (λu hu=>by
   rw[acW]at hu;simp only[Builtin.zeroCells,Array.mem_map]at hu;obtain⟨k,hk,rfl⟩:=hu;have hk:k<(hi-lo)*zv.cells.size:=by simpa using hk
   have hzp:0<zv.cells.size:=by
    rcases abu zv.cells.size with h0|h0
    .rw[h0]at hk;simp at hk
    .exact h0
   have hm:k%zv.cells.size<zv.cells.size:=Nat.mod_lt _ hzp;rw[Oq]at hm;obtain⟨u,hu,ct⟩:=Oo _ _ (uX hm);have uQ:zv.cells[k%zv.cells.size]? =some u:=by rw[Oq];simpa using hu
   rw[getElem!_def,uQ];exact ct.one)
  (λk cs j c hk hj=>by
   rw[fH]at hk;have jZ:=(I4.1 hk).1;simp at jZ;have eB:cs=z:=ab9 (RD hk);subst eB;have ya:=(I4.1 hj).1;obtain⟨u,hu,ct⟩:=Oo j c hj;refine⟨u,?_,ct⟩;have aD:k*i.size+j<(hi-lo)*zv.cells.size:=by have:(k+1)*i.size<=(hi-lo)*i.size:=abh _ jZ;rw[abr,abZ]at this;rw[Oq,<-dn];omega
   simp only[Builtin.zeroCells,abB,ac2,Array.getElem?_range];rw[if_pos aD];simp only[aaz,aam];have hm:(k*i.size+j)%zv.cells.size=j:=by rw[Oq,dn,acH,adl,adf ya]
   rw[hm];have uQ:zv.cells[j]? =some u:=by simpa using hu
   rw[getElem!_def,uQ])
 refine⟨.value (.tuple #[]),_,w',.bz [],_,U,?_,.inl rfl,hK,jc,⟨[],rfl,rfl,λi r h=>by simp at h⟩,hX⟩
 have hn:hi-lo≠0:=om;simp only[abC]at OZ;rw[OZ,sY];obtain⟨n,Ol⟩:∃n,hi-lo=n+1:=⟨hi-lo-1,om⟩;rw[Ol]at lw|-;simp[Builtin.clear_,run_underlying ht,zeroValue,typeInfo,ew,OV,lw]
theorem Im(hM:au U m w)(hE:bi U w aX a.tmps){t t2 ty e e2:TypeId}{i:TypeInfo}{z:List CC}{x y:Operand}{x' y':X}(ht:P.underlying t=some (.slice e))(vM:P.underlying t2=some (.slice e2))(hi:P.info? e=some i)(hz:dW P e=some z)(dn:i.size=z.length)(cH:0<z.length)(hb:0<i.bytes)(hx:bm x=some x')(hy:bm y=some y')(h:step P (.oZ i.size i.bytes x' y') aX m K):
  dh P (do pure (Next.value (<-Builtin.append_ #[t,t2] ty #[a.eval x,a.eval y]))) U m w K:=by
 simp only[step]at h;rcases cn.1 h with⟨yI,g1⟩|⟨_,g1⟩
 .exact El hM hE ht vM hi hz dn cH hb hx hy yI g1
 .have hd:=aR hE hx;have pG:=aR hE hy;split at g1
  .rename_i id e1 lo hh QT;rw[QT]at hd;obtain⟨bk,de,g2⟩:=aZ.1 g1;rw[aT]at de;split at g2
   .rename_i e2' rows;obtain⟨E2,DQ,g3⟩:=aZ.1 g2;rcases cn.1 g3 with⟨hc,kn,hK⟩|⟨_,g4⟩
    case inr=>exact g4.elim
    simp only[aab,abn]at hc;obtain⟨q1,q2,q3,c1,c2,c3⟩:=hc;have q1:=aai q1;have q2:=aai q2;have q3:=aai q3;subst q1 q2 q3;rw[a8]at hK;exact B8 hM ht vM hi hz dn hb hd pG de DQ c1 c2 c3 kn hK
   .exact g2.elim
  .exact g1.elim
theorem In(hM:au U m w)(hE:bi U w aX a.tmps){t ty e:TypeId}{i:TypeInfo}{z:List CC}{x:Operand}{x':X}(ht:P.underlying t=some (.slice e))(hi:P.info? e=some i)(hz:dW P e=some z)(dn:i.size=z.length)(hx:bm x=some x')(h:step P (.Uc i.size z x') aX m K):
  dh P (do pure (Next.value (<-Builtin.clear_ #[t] ty #[a.eval x]))) U m w K:=by
 have hd:=aR hE hx;simp only[step]at h;generalize a.eval x=v at hd|-;generalize x'.ev aX=c at hd h;have nothing:∀ad cap,v= .slice ad 0 cap->K (.bz []) m->dh P (do pure (Next.value (<-Builtin.clear_ #[t] ty #[v]))) U m w K:=by
  intro ad cap hv hK;refine⟨.value (.tuple #[]),_,w,.bz [],m,U,?_,.inl rfl,hK,hM,⟨[],rfl,rfl,λi r h=>by simp at h⟩,Ext.refl _ _ _⟩
  subst hv;cases ad<;>simp[Builtin.clear_,run_underlying ht]
 split at h
 .rename_i id e1 lo ew;obtain⟨bk,de,h⟩:=aZ.1 h;rw[aT]at de;split at h
  .rename_i e2 rows;rcases cn.1 h with⟨hc,iS⟩|⟨_,iS⟩
   case inr=>exact iS.elim
   clear h;simp only[aab,abn]at hc;obtain⟨q1,q2,hle⟩:=hc;have q1:=aai q1;have q2:=aai q2;subst q1 q2;obtain⟨r2,_⟩:=hM.bk id _ de;have xQ:bZ U w (.rv (.one (.row id i.size lo (some (p0 ew rows.length))))) v:=by
    obtain⟨d0,d1,d2,d3,d4,ad,hv,uN⟩:=hd;cases ew with
    |none=>
     simp only[acw]at d1 d2 hv;refine⟨d0,?_,?_,d3,d4,ad,?_,uN⟩<;>simp only[p0,abC,r2]
     .exact d1
     .exact Ts _
     .exact hv
    |some hh=>exact⟨d0,d1,d2,d3,d4,ad,hv,uN⟩
   rcases cn.1 iS with⟨aD,hK⟩|⟨d7,hK⟩
   .rw[a8]at hK;exact B9 hM ht hi hz dn xQ de (by simpa[abL]using aD) hle hK
   .have d7:¬lo<p0 ew rows.length:=λhh=>by rw[<-abL,d7]at hh;cases hh
    obtain⟨d0,d1,d2,d3,d4,ad,hv,uN⟩:=xQ;simp only[abC]at hv;rw[show p0 ew rows.length-lo=0 by omega]at hv
    exact nothing _ _ hv hK
  .exact h.elim
 .obtain⟨ad,hv⟩:=hd;exact nothing _ _ hv h
 .exact h.elim
theorem Lg{c:CV}{v:Value}(hc:KE c=true)(hd:bZ U w c v):∃ad n cap,v= .slice ad n cap:=by
 unfold KE at hc;split at hc;all_goals first
  |(cases hc;done)
  |(have hd:c7 _ _ _ _:=hd;cases hd<;>exact⟨_,_,_,rfl⟩)
  |(obtain⟨a,hv⟩:=hd;exact⟨_,_,_,hv⟩)
  |(obtain⟨_,_,_,_,_,a,hv,_⟩:=hd;exact⟨_,_,_,hv⟩)
theorem Eu(hM:au U m w)(hE:bi U w aX a.tmps){t t2 ty e:TypeId}{i:TypeInfo}{z:List CC}{x y:Operand}{x' y':X}(ht:P.underlying t=some (.slice e))(hi:P.info? e=some i)(hz:dW P e=some z)(dn:i.size=z.length)(hx:bm x=some x')(hy:bm y=some y')(h:step P (.copy i.size x' y') aX m K):
  dh P (do pure (Next.value (<-Builtin.copy_ #[t,t2] ty #[a.eval x,a.eval y]))) U m w K:=by
 have hd:=aR hE hx;have pG:=aR hE hy;simp only[step]at h;generalize a.eval x=v at hd|-;generalize a.eval y=v2 at pG|-;generalize x'.ev aX=c at hd h;generalize y'.ev aX=c2 at pG h;obtain⟨E,DQ,h⟩:=aZ.1 h;obtain⟨ad2,KY,KZ,uR,U9,Va,F2⟩:=ni hM DQ pG;have hn:=F2.firstCells (P:=P) KY 0;rw[show w.drewN 0=w from rfl]at hn;have h':=h;clear h;rcases cn.1 h' with⟨h0,g⟩|⟨h0,g⟩
 .have h0:E.length=0:=aai h0;rcases cn.1 g with⟨hs,hK⟩|⟨_,g⟩
  case inr=>exact g.elim
  obtain⟨ad,n,cap,hv⟩:=Lg hs hd;have x9:KZ=[]:=aag (by rw[F2.len,h0,acV])
  rw[h0]at hn uR;rw[x9]at hn;refine⟨.value (goInt 0),_,w,an .i64 0,m,U,?_,.inl rfl,hK,hM,c7.val (.int .i64 0) rfl,Ext.refl _ _ _⟩;subst hv uR;cases ad<;>simp[Builtin.copy_,run_underlying ht,Builtin.lenOf,sizeOf,typeInfo,hi,hn,storeCells]
 .split at g
  .clear h';rename_i rid e1 lo ew;obtain⟨bk,de,g⟩:=aZ.1 g;rw[aT]at de;split at g
   .rename_i e2 rows;rcases cn.1 g with⟨hc,hK⟩|⟨_,g⟩
    case inr=>exact g.elim
    clear g;simp only[aab,abn]at hc;obtain⟨q1,q2,hle,kn,jS⟩:=hc;have q1:=aai q1;have q2:=aai q2;subst q1 q2;have cH:0<E.length:=by
     rcases abu E.length with e0|e0
     .rw[e0]at h0;cases h0
     .exact e0
    obtain⟨r2,r3,_⟩:=hM.bk rid _ de;have xQ:bZ U w (.rv (.one (.row rid i.size lo (some (p0 ew rows.length))))) v:=by
     obtain⟨d0,d1,d2,d3,d4,ad,hv,uN⟩:=hd;cases ew with
     |none=>
      simp only[acw]at d1 d2 hv;refine⟨d0,?_,?_,d3,d4,ad,?_,uN⟩<;>simp only[p0,abC,r2]
      .exact d1
      .exact Ts _
      .exact hv
     |some hh=>exact⟨d0,d1,d2,d3,d4,ad,hv,uN⟩
    obtain⟨w',lw,jc,hX⟩:=s7 (P:=P) hM (h:=lo) (E:=E) (vs:=KZ) de om om F2.lE F2.len F2.one (λk cs j c hk hj=>by obtain⟨u,hu,ct⟩:=F2.jR k cs j c hk hj;exact⟨u,hu,ct.Le (pK jS hk hj)⟩)
    rw[a8]at hK;obtain⟨d0,d1,d2,d3,d4,ad,hv,uN⟩:=xQ;simp only[abC]at hv d2;have sY:=uN om;have YV:Nat.min E.length (p0 ew rows.length-lo)=E.length:=acr om;refine⟨.value (goInt E.length),_,w',an .i64 (E.length:Int),_,U,?_,.inl rfl,hK,jc,c7.val (.int .i64 (E.length:Int)) rfl,hX⟩;subst hv uR sY;simp[Builtin.copy_,run_underlying ht,Builtin.lenOf,sizeOf,typeInfo,hi,hn,YV,lw]
   .exact g.elim
  .exact g.elim
theorem Ev(hM:au U m w)(hE:bi U w aX a.tmps){t e:TypeId}{n sz:Nat}{agg:Bool}{x k:Operand}{x' k':X}(hu:P.underlying t=some (.array n e))(ha:ek P e=some agg)(hs:eM P e=some sz)(hx:bm x=some x')(hk:bm k=some k')(h:step P (.KA agg n sz x' k') aX m K):dh P (do pure (Next.value (<-Instr.index t (a.eval x) (a.eval k)))) U m w K:=by
 have hd:=aR hE hx;have Ac:=aR hE hk;simp only[step]at h;generalize a.eval x=v at hd|-;generalize a.eval k=vk at Ac|-;generalize x'.ev aX=c at hd h;generalize k'.ev aX=ck at Ac h;split at h
 .rename_i kd j;obtain⟨rfl,_⟩:=bJ Ac;split at h
  .rename_i cs;obtain⟨vs,rfl,hl,hc⟩:=hd;obtain⟨kk,BE,g1⟩:=aZ.1 h;obtain⟨hj,aD⟩:=mC BE;obtain⟨l,hr,g2⟩:=aZ.1 g1;obtain⟨cv,hm,hK⟩:=aZ.1 g2;clear h g1 g2;subst hj;obtain⟨u,cU,ct⟩:=B0 (w:=w) ha hs (cells:=vs.toArray) ⟨by simpa using hl,λi c hi=>by simpa using hc i c hi⟩ hr hm
   refine dh.pure hM (v:=u) ?_ hK ct;have h1:(0:Int)<=(kk:Int)/\(kk:Int)<(n:Int):=om;simp[Instr.index,asIntOf,run_underlying hu,h1,fp hs,aD,cU]
  .exact h.elim
 .exact h.elim
theorem rm(hM:au U m w)(hE:bi U w aX a.tmps){mx:Bool}{ts:Array TypeId}{ty:TypeId}{x y:Operand}{x' y':X}(hx:bm x=some x')(hy:bm y=some y')(h:step P (.jO mx [x',y']) aX m K):dh P (do pure (Next.value (<-(if mx then Builtin.max_ ts ty #[a.eval x,a.eval y]else Builtin.min_ ts ty #[a.eval x,a.eval y])))) U m w K:=by
 have hd:=aR hE hx;have pG:=aR hE hy;simp only[step]at h;generalize a.eval x=v at hd|-;generalize a.eval y=u at pG|-;generalize x'.ev aX=c at hd h;generalize y'.ev aX=d at pG h;split at h
 .rename_i k p;obtain⟨rfl,_⟩:=bJ hd;split at h
  .rename_i k2 q;obtain⟨rfl,_⟩:=bJ pG;cases mx
   .refine dh.pure hM (v:= .int k (if q<p then q else p)) ?_ h (cy rfl)
    simp[Builtin.min_,Builtin.min2]
   .refine dh.pure hM (v:= .int k (if q>p then q else p)) ?_ h (cy rfl)
    simp[Builtin.max_,Builtin.max2]
  .exact h.elim
 .exact h.elim
theorem Io(hM:au U m w)(hE:bi U w aX a.tmps){s e e2:TypeId}{x:Operand}{x':X}(hs:P.underlying s=some (.slice e))(he:P.underlying e=some (.int .u8))(hx:bm x=some x')(h:step P (.XH x') aX m K):dh P (do pure (Next.value (<-convert s s (a.eval x)))) U m w K:=by
 have hd:=aR hE hx;simp only[step]at h;generalize a.eval x=v at hd|-;generalize x'.ev aX=c at hd h;split at h
 .rename_i id e1 lo hi;obtain⟨bk,de,g1⟩:=aZ.1 h;rw[aT]at de;split at g1
  .rename_i esz rows;rcases cn.1 g1 with⟨aD,hK⟩|⟨_,g2⟩
   case inr=>exact g2.elim
   rw[aab,abL]at aD;obtain⟨nX,aD⟩:=aD;have nX:=aai nX;have hid:id<m.length:=(I4.1 de).1;have Sc:=hd;obtain⟨d0,d1,d2,d3,d4,ad,hv,uN⟩:=hd;obtain⟨r2,r3,r4,r5,H9⟩:=hM.bk id _ de;have bc:0<(U.aH (.al id)).cap:=by clear H9;omega
   obtain⟨cur,bT,h1,cq⟩:=H9 bc;have sY:=uN (by clear H9;omega)
   obtain⟨ty,fr,d6,va,jS,_⟩:=bT;have O6:=(aap.1 d6).1;let Vs:Nat×Nat:=if fr.1==fr.2 then(cur.size,cur.size+1)else(min fr.1 cur.size,max fr.2 (cur.size+1))
   let w':World:=w.freeze ⟨(U.aH (.al id)).b,cur.size,none⟩ 1;have Sx:w'.heap[(U.aH (.al id)).b]? =some (.cells cur ty Vs):=by simp[w',World.freeze,abx,d6,Vs]
   have Ca:l6 (esz=1) w' (U.aH (.al id)).b cur:=by
    refine⟨ty,Vs,Sx,?_,λi hi=>?_,.inl nX⟩
    .simp only[Vs];split
     .simp
     .simp only;omega
    .simp only[Vs];split
     .simp;omega
     .rename_i dt;have dt:fr.1≠fr.2:=by simpa using dt
      have h0:cur.size<=fr.1:=by
       rcases aad fr.1 cur.size with q|q
       .have:=jS fr.1 q;simp at this;omega
       .exact q
      simp;omega
   have ht:eS w w' (U.aH (.al id)).b:=⟨λb hb=>by simp[w',World.freeze,abx,Ne.symm hb],by simp[w',World.freeze],by simp[w',World.freeze],by simp[w',World.freeze],by simp[w',World.freeze]⟩
   obtain⟨jc,hX⟩:=hM.KN (zX:= .row esz rows) de ⟨_,de,aC,λ_=>bc⟩ ht (λg=>⟨r2,r3,r4,r5,λ_=>⟨cur,Ca,h1,λi cs j c hi hj=>by
    obtain⟨u,hu,ct⟩:=cq i cs j c hi hj;exact⟨u,hu,ct.cm g (by rintro _ _ _ e;cases e;exact d0)⟩⟩⟩) (by
    rintro i' j' qW e ⟨b2,fx,gV⟩;rw[Tr hid]at fx;cases fx;exact⟨_,de,gV⟩)
   have jg:m.set id (.row esz rows)=m:=by
    apply abF;intro i;rw[abl];split
    .rename_i hi;subst hi
     first|rw[de]|rw[if_pos hid,de]
    .rfl
   rw[jg]at jc hX;refine⟨.value v,v,w',_,m,U,?_,.inl rfl,hK,jc,Sc,hX⟩;have YW:w.shape? (U.aH (.al id)).b=some (ty,cur.size):=by unfold World.shape?;rw[d6]
   rw[hv,sY];simp[convert,run_underlying hs,run_underlying he,markStringish,YW];rfl
  .exact g1.elim
 .exact h.elim
end
section
variable {P:Program} {U:bF} {m:Mem} {w:World} {aX:List CV} {a:Act} {K:CV->Mem->Prop}
theorem bi.ext{U':bF}{m':Mem}{w':World}{tmps:Array Value}(hM:au U m w)(x:Ext U m w U' m' w')(hE:bi U w aX tmps):bi U' w' aX tmps:=
 ⟨hE.size,λi c hi=>let⟨v,hv,hd⟩:=hE.jR i c hi;⟨v,hv,bZ.ext hM x hd⟩⟩
theorem bi.set{tmps:Array Value}{d:Nat}{c:CV}{v:Value}(hE:bi U w aX tmps)(hd:bZ U w c v):bi U w (aX.set d c) (tmps.setIfInBounds d v):=by
 refine⟨by simp[hE.size],λi c' hi=>?_⟩
 by_cases h:d=i
 .subst h;have aD:d<aX.length:=by
   rcases aad d aX.length with h|h
   .exact h
   .rw[aaZ (by simpa using h)]at hi;cases hi
  rw[Tr aD]at hi;cases hi;exact⟨v,by rw[ab2];simp[hE.size,aD],hd⟩
 .rw[WE h]at hi;obtain⟨u,hu,ct⟩:=hE.jR i c' hi;exact⟨u,by rw[ab2,if_neg h];exact hu,ct⟩
theorem Lh{d:Option Nat}{v:CV}{e:List CV}{K:List CV->Prop}:put d v e K=match d with|none=>K e|some d=>K (e.set d v):=by
 cases d with
 |none=>rfl
 |some d=>simp only[put,UU,eY,a8]
theorem bi.put{d:Option Nat}{c:CV}{v:Value}(hE:bi U w aX a.tmps)(hd:bZ U w c v){K:List CV->Prop}(h:put d c aX K):
  ∃fw,K fw/\bi U w fw (a.put d v).tmps/\(a.put d v).defers=a.defers:=by
 rw[Lh]at h;cases d with
 |none=>exact⟨aX,h,hE,rfl⟩
 |some d=>exact⟨_,h,hE.set hd,rfl⟩
theorem Ew{o:Oper}{i:I}(hl:vB P o=some i)(ur:∀f xs ts,o.op≠.call {callee:= .value f,args:=xs,argTypes:=ts})(hM:au U m w)(hE:bi U w aX a.tmps)(h:step P i aX m K):dh P (execOp a.eval o) U m w K:=by
 unfold vB at hl;cases dH:o.op;all_goals rw[dH]at hl
 all_goals try(simp only at hl;cases hl;done)
 case move x=>
  simp only[RX,N0]at hl;obtain⟨x',hx,hl⟩:=hl;cases hl;unfold execOp;rw[dH];exact dh.pure hM rfl h (aR hE hx)
 case assign x=>
  simp only[RX,N0]at hl;obtain⟨x',hx,hl⟩:=hl;cases hl;unfold execOp;rw[dH];exact dh.pure hM rfl h (aR hE hx)
 case pick c x y=>
  simp only[RX,N0]at hl;obtain⟨c',hc,x',hx,y',hy,hl⟩:=hl;cases hl;unfold execOp;rw[dH];exact Eh hM hE hc hx hy h
 case alloc t=>
  simp only[RX,N0]at hl;obtain⟨z,hz,hl⟩:=hl;cases hl;unfold execOp;rw[dH];exact BW hM hz h
 case box t x=>
  simp only[RX,N0]at hl;obtain⟨x',hx,hl⟩:=hl;cases hl;unfold execOp;rw[dH];exact H2 hM hE hx h
 case build t ps=>
  simp only[RX,N0]at hl;obtain⟨z,hz,hl⟩:=hl;unfold execOp;rw[dH];split at hl
  .rename_i fs hu;split at hl
   .rename_i fI;simp only[N0]at hl;obtain⟨nY,hp,hl⟩:=hl;cases hl;exact uh hM hE hz (.inl ⟨fs,hu,fI,hp⟩) h
   .cases hl
  .rename_i n e hu;simp only[N0]at hl;obtain⟨sz,hs,nY,hp,hl⟩:=hl;cases hl;exact uh hM hE hz (.inr ⟨n,e,sz,hu,hs,hp⟩) h
  .cases hl
 case buildSlice t n ps=>
  simp only[RX]at hl;unfold execOp;rw[dH];split at hl
  .rename_i e hu;simp only[N0]at hl;obtain⟨z,hz,sz,hs,hl⟩:=hl;split at hl
   .rename_i hc;obtain⟨rfl,h2,h3⟩:=hc;simp only[N0]at hl;obtain⟨nY,hp,hl⟩:=hl;cases hl;exact H7 hM hE hu hz hs h2 h3 hp h
   .cases hl
  .cases hl
 case load t x=>
  simp only[RX,N0]at hl;obtain⟨agg,ha,n,hs,x',hx,hl⟩:=hl;cases hl;unfold execOp;rw[dH];exact Eb hM hE ha hs hx h
 case store t p x=>
  simp only[RX,N0]at hl;obtain⟨n,hs,hl⟩:=hl;split at hl
  .cases hl
  .rename_i hn;simp only[N0]at hl;obtain⟨p',hp,x',hx,hl⟩:=hl;cases hl;unfold execOp;rw[dH];exact BZ hM hE hs hn hp hx h
 case fieldAddr t x k=>
  simp only[RX]at hl;unfold execOp;rw[dH];split at hl
  .rename_i fs hu;simp only[N0]at hl;obtain⟨f,hf,n,hs,hl⟩:=hl;split at hl
   .cases hl
   .rename_i hn;simp only[N0]at hl;obtain⟨x',hx,hl⟩:=hl;cases hl;exact Ec hM hE hu hf hs hn hx h
  .cases hl
 case field t x k=>
  simp only[RX]at hl;unfold execOp;rw[dH];split at hl
  .rename_i fs hu;simp only[N0]at hl;obtain⟨f,hf,agg,ha,n,hs,x',hx,hl⟩:=hl;cases hl;exact H3 hM hE hu hf ha hs hx h
  .cases hl
 case indexAddr t x k=>
  simp only[RX]at hl;unfold execOp;rw[dH];split at hl
  .rename_i e hu;simp only[N0]at hl;obtain⟨n,hs,x',hx,k',hk,hl⟩:=hl;cases hl;exact H4 hM hE hu hs hx hk h
  .rename_i len e hu;simp only[N0]at hl;obtain⟨n,hs,x',hx,k',hk,hl⟩:=hl;cases hl;exact Ed hM hE hu hs hx hk h
  .cases hl
 case index t x k=>
  simp only[RX]at hl;unfold execOp;rw[dH];split at hl
  .rename_i hu;simp only[N0]at hl;obtain⟨x',hx,k',hk,hl⟩:=hl;cases hl;exact Ee hM hE hu hx hk h
  .rename_i n e hu;simp only[N0]at hl;obtain⟨agg,ha,sz,hs,x',hx,k',hk,hl⟩:=hl;cases hl;exact Ev hM hE hu ha hs hx hk h
  .cases hl
 case binOp op t x y yt=>
  simp only[RX]at hl;unfold execOp;rw[dH];split at hl
  .simp only[N0]at hl;obtain⟨x',hx,y',hy,hl⟩:=hl;cases hl;exact yz hM hE hx hy h
  .simp only[N0]at hl;obtain⟨x',hx,y',hy,hl⟩:=hl;cases hl;exact yz hM hE hx hy h
  .rename_i e hu;split at hl
   .simp only[N0]at hl;obtain⟨x',hx,hl⟩:=hl;cases hl;exact vR (neg:=false) hM hE hu hx h
   .simp only[N0]at hl;obtain⟨x',hx,hl⟩:=hl;cases hl;exact vR (neg:=true) hM hE hu hx h
   .cases hl
  .rename_i hu;split at hl
   .simp only[N0]at hl;obtain⟨x',hx,y',hy,hl⟩:=hl;cases hl;exact yA (neg:=false) hM hE hu hx hy h
   .simp only[N0]at hl;obtain⟨x',hx,y',hy,hl⟩:=hl;cases hl;exact yA (neg:=true) hM hE hu hx hy h
   .cases hl
  .rename_i n e hu;split at hl
   .rename_i kk hg YX hs;simp only[N0]at hl;obtain⟨x',hx,y',hy,hl⟩:=hl;cases hl;exact vJ (neg:=false) hM hE hu hg YX hs hx hy h
   .rename_i kk hg YX hs;simp only[N0]at hl;obtain⟨x',hx,y',hy,hl⟩:=hl;cases hl;exact vJ (neg:=true) hM hE hu hg YX hs hx hy h
   .cases hl
  .rename_i fs hu;split at hl
   .rename_i ks hg hk;simp only[N0]at hl;obtain⟨x',hx,y',hy,hl⟩:=hl;cases hl;exact yC (neg:=false) hM hE hu hg hk hx hy h
   .rename_i ks hg hk;simp only[N0]at hl;obtain⟨x',hx,y',hy,hl⟩:=hl;cases hl;exact yC (neg:=true) hM hE hu hg hk hx hy h
   .cases hl
  .cases hl
 case unOp op t x=>
  simp only[RX,N0]at hl;obtain⟨x',hx,hl⟩:=hl;cases hl;unfold execOp;rw[dH];exact KT hM hE hx h
 case convert s d x=>
  simp only[RX]at hl;unfold execOp;rw[dH];split at hl
  .rename_i hs hd;simp only[N0]at hl;obtain⟨x',hx,hl⟩:=hl;cases hl;exact Ef hM hE hs hd hx h
  .rename_i hs hd;simp only[N0]at hl;obtain⟨x',hx,hl⟩:=hl;cases hl;exact H5 hM hE hs hd hx h
  .rename_i e hs hd;split at hl
   .rename_i he;simp only[N0]at hl;obtain⟨x',hx,hl⟩:=hl;cases hl;exact Ie hM hE hs he hd hx h
   .cases hl
  .rename_i e hs hd;split at hl
   .rename_i he;simp only[N0]at hl;obtain⟨x',hx,hl⟩:=hl;cases hl;exact Ig hM hE hs hd he hx h
   .cases hl
  .rename_i e0 e hs hd;split at hl
   .rename_i YY he;simp only[N0]at hl;obtain⟨x',hx,hl⟩:=hl;cases hl;have YY:s=d:=by simpa using YY
    subst YY;rw[hs]at hd;cases hd;exact Io (e2:=e0) hM hE hs he hx h
   .cases hl
  .cases hl
 case range t x=>
  dsimp only at hl;unfold execOp;rw[dH];split at hl
  .rename_i kt vt hu;simp only[RX,N0]at hl;obtain⟨x',hx,hl⟩:=hl;cases hl;exact Ii hM hE hu hx h
  .cases hl
 case next it b=>
  cases b with
  |false=>
   simp only[RX,N0]at hl;unfold execOp;rw[dH];obtain⟨x',hx,hl⟩:=hl;cases hl;exact Ik hM hE hx h
  |true=>cases hl
 case entry it=>
  simp only[RX,N0]at hl;unfold execOp;rw[dH];obtain⟨x',hx,hl⟩:=hl;cases hl;exact Il hM hE hx h
 case makeMap t r=>
  dsimp only at hl;unfold execOp;rw[dH];split at hl
  .cases hl;exact uo hM (.inl rfl) h
  .rename_i k n kt et hu;cases hl;exact uo hM (.inr ⟨k,n,kt,et,rfl,hu⟩) h
  .cases hl
 case makeSlice t l c=>
  simp only[RX]at hl;unfold execOp;rw[dH];split at hl
  .rename_i e hu;simp only[N0]at hl;obtain⟨i,hi,z,hz,hl⟩:=hl;split at hl
   .rename_i hc;obtain⟨h1,h2,h3⟩:=hc;simp only[N0]at hl;obtain⟨l',B6,c',q8,hl⟩:=hl;cases hl;exact x8 hM hE hu hi hz h1 h2 h3 B6 q8 h
   .cases hl
  .cases hl
 case lookup t x k b=>
  simp only[RX]at hl;unfold execOp;rw[dH];split at hl
  .rename_i kt vt hu;simp only[N0]at hl;obtain⟨z,hz,kk,hk,x',hx,k',K9,hl⟩:=hl;cases hl;exact Es hM hE hu hz hk hx K9 h
  .cases hl
 case mapUpdate t x k v=>
  simp only[RX]at hl;unfold execOp;rw[dH];split at hl
  .rename_i kt vt hu;simp only[N0]at hl;obtain⟨kk,hk,x',hx,k',K9,v',hv,hl⟩:=hl;cases hl;exact vU hM hE hu hk hx K9 hv h
  .cases hl
 case insert t x k v=>
  simp only[RX]at hl;unfold execOp;rw[dH];split at hl
  .rename_i kt vt hu;simp only[N0]at hl;obtain⟨kk,hk,x',hx,k',K9,v',hv,hl⟩:=hl;cases hl;exact vU hM hE hu hk hx K9 hv h
  .cases hl
 case makeFunc fn fst eh=>
  unfold execOp;rw[dH];cases fn<;>simp only at hl<;>try(cases hl;done)
  rename_i f;split at hl
  .rename_i hz;simp only[RX,N0]at hl;obtain⟨x',hx,hl⟩:=hl;cases hl;have hf:fst= #[]:=Array.eq_empty_of_size_eq_zero hz;subst hf;exact KU hM hE hx h
  .cases hl
 case extract x k=>
  simp only[RX,N0]at hl;obtain⟨x',hx,hl⟩:=hl;cases hl;unfold execOp;rw[dH];exact H6 hM hE hx h
 case slice t x lo hi mx=>
  simp only[RX]at hl;unfold execOp;rw[dH];split at hl
  .rename_i e hu;simp only[N0]at hl;obtain⟨n,hs,x',hx,Eo,gY,ew,xR,YJ,Om,hl⟩:=hl;cases hl;exact Ia hM hE hu hs hx gY xR Om h
  .rename_i hu;cases mx<;>simp only at hl
   .simp only[N0]at hl;obtain⟨x',hx,Eo,gY,ew,xR,hl⟩:=hl;cases hl;exact En hM hE hu hx gY xR h
   .cases hl
  .cases hl
 case nilCheck x=>
  simp only[RX,N0]at hl;obtain⟨x',hx,hl⟩:=hl;cases hl;exact Eg hM hE dH hx h
 case call c=>
  obtain⟨callee,args,argTypes⟩:=c;cases callee with
  |value f=>
   exact absurd dH (ur _ _ _)
  |invoke r n=>simp only at hl;cases hl
  |builtin b=>
   cases b<;>simp only at hl<;>try(cases hl;done)
   case len=>
    simp only[RX]at hl;split at hl
    .rename_i x t eF Ad;have e1:args= #[x]:=abV (by simpa using eF)
     have e2:argTypes= #[t]:=abV (by simpa using Ad)
     subst e1 e2;unfold execOp;rw[dH];split at hl
     .rename_i hu;simp only[N0]at hl;obtain⟨x',hx,hl⟩:=hl;cases hl;have:=sU (ty:=o.type) hM hE (.inl ⟨rfl,hu⟩) hx h;unfold dh at this|-;simpa[resolve,invoke,builtin]using this
     .rename_i e hu;simp only[N0]at hl;obtain⟨x',hx,hl⟩:=hl;cases hl;have:=sU (ty:=o.type) hM hE (.inr (.inl ⟨rfl,e,hu⟩)) hx h;unfold dh at this|-;simpa[resolve,invoke,builtin]using this
     .rename_i kt e hu;simp only[N0]at hl;obtain⟨x',hx,hl⟩:=hl;cases hl;have:=sU (ty:=o.type) hM hE (.inr (.inr ⟨rfl,kt,e,hu⟩)) hx h;unfold dh at this|-;simpa[resolve,invoke,builtin]using this
     .cases hl
    .cases hl
   case append=>
    simp only[RX]at hl;split at hl
    .rename_i x y t t2 eF Ad;have e1:args= #[x,y]:=abV (by simpa using eF)
     have e2:argTypes= #[t,t2]:=abV (by simpa using Ad)
     subst e1 e2;unfold execOp;rw[dH];split at hl
     .rename_i e e2 hu UZ;simp only[N0]at hl;obtain⟨i,hi,z,hz,hl⟩:=hl;split at hl
      .rename_i hc;obtain⟨h1,h2,h3⟩:=hc;simp only[N0]at hl;obtain⟨x',hx,y',hy,hl⟩:=hl;cases hl;have:=Im (ty:=o.type) hM hE hu UZ hi hz h1 h2 h3 hx hy h;unfold dh at this|-;simpa[resolve,invoke,builtin]using this
      .cases hl
     .cases hl
    .cases hl
   case min=>
    simp only[RX]at hl;split at hl
    .rename_i x y eF;have e1:args= #[x,y]:=abV (by simpa using eF)
     subst e1;unfold execOp;rw[dH];simp only[N0]at hl;obtain⟨x',hx,y',hy,hl⟩:=hl;cases hl;have:=rm (mx:=false) (ts:=argTypes) (ty:=o.type) hM hE hx hy h;unfold dh at this|-;simpa[resolve,invoke,builtin]using this
    .cases hl
   case max=>
    simp only[RX]at hl;split at hl
    .rename_i x y eF;have e1:args= #[x,y]:=abV (by simpa using eF)
     subst e1;unfold execOp;rw[dH];simp only[N0]at hl;obtain⟨x',hx,y',hy,hl⟩:=hl;cases hl;have:=rm (mx:=true) (ts:=argTypes) (ty:=o.type) hM hE hx hy h;unfold dh at this|-;simpa[resolve,invoke,builtin]using this
    .cases hl
   case copy=>
    simp only[RX]at hl;split at hl
    .rename_i x y t t2 eF Ad;have e1:args= #[x,y]:=abV (by simpa using eF)
     have e2:argTypes= #[t,t2]:=abV (by simpa using Ad)
     subst e1 e2;unfold execOp;rw[dH];split at hl
     .rename_i e hu;simp only[N0]at hl;obtain⟨i,hi,z,hz,hl⟩:=hl;split at hl
      .rename_i hc;simp only[N0]at hl;obtain⟨x',hx,y',hy,hl⟩:=hl;cases hl;have:=Eu (ty:=o.type) (t2:=t2) hM hE hu hi hz hc hx hy h;unfold dh at this|-;simpa[resolve,invoke,builtin]using this
      .cases hl
     .cases hl
    .cases hl
   case clear=>
    simp only[RX]at hl;split at hl
    .rename_i x t eF Ad;have e1:args= #[x]:=abV (by simpa using eF)
     have e2:argTypes= #[t]:=abV (by simpa using Ad)
     subst e1 e2;unfold execOp;rw[dH];split at hl
     .rename_i e hu;simp only[N0]at hl;obtain⟨i,hi,z,hz,hl⟩:=hl;split at hl
      .rename_i hc;simp only[N0]at hl;obtain⟨x',hx,hl⟩:=hl;cases hl;have:=In (ty:=o.type) hM hE hu hi hz hc hx h;unfold dh at this|-;simpa[resolve,invoke,builtin]using this
      .cases hl
     .cases hl
    .cases hl
   case delete=>
    simp only[RX]at hl;split at hl
    .rename_i x y t r eF Ad;have e1:args= #[x,y]:=abV (by simpa using eF)
     have e2:argTypes[0]? =some t:=by rw[<-abB,Ad];rfl
     subst e1;unfold execOp;rw[dH];split at hl
     .rename_i kt et hu;simp only[N0]at hl;obtain⟨kk,hk,x',hx,y',hy,hl⟩:=hl;cases hl;have:=Et (t2:=o.type) (ats:=argTypes) hM hE e2 hu hk hx hy h;unfold dh at this|-;simpa[resolve,invoke,builtin]using this
     .cases hl
    .cases hl
end
section
variable {P:Program}
def Cb:Exit->Option Ex
 | .normal=>some .normal
 | .exit id=>some (.exit id)
 | .ret=>some .ret
 |_=>none
def Ey(N:Nat)(U:bF)(w:World)(ds:List Deferred):Prop:=
 ∃Ds:List Nat,ds=Ds.map (λD=>{target:= .collected D,args:= #[]})/\Ds.Nodup/\∀D,D∈Ds->N<=D/\U.S D/\w.heap[D]? =some (.deferred (some []))
theorem Ey.nil{N:Nat}{U:bF}{w:World}:Ey N U w []:=⟨[],rfl,List.nodup_nil,aC⟩
theorem Ey.ext{N:Nat}{U U':bF}{m m':Mem}{w w':World}{ds:List Deferred}(hM:au U m w)(x:Ext U m w U' m' w')(h:Ey N U w ds):Ey N U' w' ds:=by
 obtain⟨Ds,h1,h2,h3⟩:=h;refine⟨Ds,h1,h2,λD hD=>?_⟩
 obtain⟨g1,g2,g3⟩:=h3 D hD;exact⟨g1,x.S D g2,(x.frame D (hM.S D g2) λk hk e=>(hM.aQ k hk).2 (e▸g2)).trans g3⟩
theorem Ey.s{N:Nat}{U U':bF}{w:World}{ds:List Deferred}(hS:∀b,U.S b->U'.S b)(h:Ey N U w ds):Ey N U' w ds:=by obtain⟨Ds,h1,h2,h3⟩:=h;exact⟨Ds,h1,h2,λD hD=>⟨(h3 D hD).1,hS D (h3 D hD).2.1,(h3 D hD).2.2⟩⟩
structure Inv(N:Nat)(ρ0:bF)(m0:Mem)(w0:World)(st:St)(U:bF)(a:Act)(w:World):Prop where
 ext:Ext ρ0 m0 w0 U st.mem w
 mem:au U st.mem w
 aX:bi U w st.aX a.tmps
 defers:Ey N U w a.defers
 hN:N<=w0.heap.size
 n0:m0.length<=st.mem.length
def Ae(N:Nat)(ρ0:bF)(m0:Mem)(w0:World)(K:Ex->St->Prop)(e:Exit)(a:Act)(w:World):Prop:=
 ∃ex st U,Cb e=some ex/\K ex st/\Inv N ρ0 m0 w0 st U a w
variable {N:Nat} {ρ0:bF} {m0:Mem} {w0:World}
theorem Inv.step{aX:List CV}{m m':Mem}{U U':bF}{a:Act}{w w':World}{d:Option Nat}{c:CV}{v:Value}(h:Inv N ρ0 m0 w0 ⟨aX,m⟩ U a w)(hM:au U' m' w')(hd:bZ U' w' c v)(hx:Ext U m w U' m' w'){K:List CV->Prop}(hp:put d c aX K):
  ∃fw,K fw/\Inv N ρ0 m0 w0 ⟨fw,m'⟩ U' (a.put d v) w':=by
 obtain⟨fw,hK,hE,hdf⟩:=(h.aX.ext h.mem hx:bi U' w' aX a.tmps).put hd hp;refine⟨fw,hK,h.ext.trans hx,hM,hE,hdf▸h.defers.ext h.mem hx,h.hN,?_⟩;have h1:=h.n0;have h2:=h.mem.n;have h3:=hM.n;have h4:=hx.n;simp only at h1 h2|-;omega
theorem Cc{o:Oper}{i:I}{aX:List CV}{m:Mem}{U:bF}{a:Act}{w:World}{K:List CV->Mem->Prop}{next:Act->World->Prop}{Q:Exit->Act->World->Prop}(hl:sO P o=some i)(h:Inv N ρ0 m0 w0 ⟨aX,m⟩ U a w)(hs:step P i aX m λv m'=>put o.dst v aX λe'=>K e' m')(hn:∀fw m' U' a' w',K fw m'->Inv N ρ0 m0 w0 ⟨fw,m'⟩ U' a' w'->next a' w'):o.wp P a w next Q:=by
 rcases D5 hl with hl|rfl
 case inr=>rw[ON]at hs;exact hs.elim
 by_cases hc:∃f xs ts,o.op= .call {callee:= .value f,args:=xs,argTypes:=ts}
 .obtain⟨f,xs,ts,dH⟩:=hc;have Vl:∃f' GF,i= .call f' GF/\bm f=some f'/\uc xs.toList=some GF:=by unfold vB at hl;rw[dH]at hl;simp only[RX,N0]at hl;obtain⟨f1,hf,xs1,hx,hl⟩:=hl;cases hl;exact⟨f1,xs1,rfl,hf,hx⟩
  obtain⟨f',GF,rfl,hf,hx⟩:=Vl;have hd:=aR h.aX hf;simp only[step]at hs;split at hs
  .rename_i g eh YZ;rw[YZ]at hd;obtain⟨Li,hv⟩:=hd;obtain⟨⟨fn,Y0,Q2,GO⟩,ur⟩:=hs;obtain⟨e1,e2⟩:=sS h.aX hx;simp only[bX,vI]at ur;have hb:fn.body≠none:=by intro e;rw[e]at Q2;cases Q2
   have Lj:fn.name≠ "runtime.NumGoroutine" :=by intro e;rw[e]at GO;simp at GO
   have cU:(execOp a.eval o).run P w= .ok (.enter g (xs.map a.eval++(eh.map λid=>Value.pointer (some ⟨(U.aH (.al id)).b,(U.aH (.al id)).ar,none⟩)).toArray)) w:=by unfold execOp;rw[dH];simp[resolve,hv,Deferred.ofValue,invoke,callFunc,Y0,Lj,hb]
   unfold Oper.wp;rw[cU,Oper.upon_enter];have Af:=ur U w (xs.toList.map a.eval++eh.map λid=>Value.pointer (some ⟨(U.aH (.al id)).b,(U.aH (.al id)).ar,none⟩)) h.mem (by simp[e1]) (λi c hi=>by
    rcases aad i (Gt aX GF).length with aD|d7
    .rw[Yf aD]at hi;obtain⟨v,uR,xQ⟩:=e2 i c hi;exact⟨v,by rw[Yf (by simpa[e1]using aD)];exact uR,xQ⟩
    .rw[WH d7]at hi;rw[WH (by simpa[e1]using d7)]
     rw[RA]at hi;cases hk:eh[i-(Gt aX GF).length]? with
     |none=>rw[hk]at hi;cases hi
     |some id=>
      rw[hk]at hi;simp only[aaz,aam]at hi;subst hi;refine⟨_,by rw[ML,<-e1,RA,hk];rfl,Li id (RD hk),aC⟩)
   have eF:(xs.toList.map a.eval++eh.map λid=>Value.pointer (some ⟨(U.aH (.al id)).b,(U.aH (.al id)).ar,none⟩)).toArray=
     xs.map a.eval++(eh.map λid=>Value.pointer (some ⟨(U.aH (.al id)).b,(U.aH (.al id)).ar,none⟩)).toArray:=by
    apply abV;simp
   rw[eF]at Af;refine Af.mono λe w' hR=>?_
   obtain⟨v,r,m',U',rfl,hK,jc,x7,sW⟩:=hR;obtain⟨fw,Kg,hI⟩:=h.step (d:=o.dst) jc x7 sW hK;exact hn fw m' U' _ w' Kg hI
  .exact hs.elim
 .obtain⟨nx,v,w',cv,m',U',hr,Vt,hK,jc,x7,sW⟩:=Ew hl (λf xs ts e=>hc ⟨f,xs,ts,e⟩) h.mem h.aX hs
  obtain⟨fw,Kg,hI⟩:=h.step (d:=o.dst) jc x7 sW hK;unfold Oper.wp;rw[hr];rcases Vt with rfl|⟨rfl,rfl⟩
  .exact hn fw m' U' _ w' Kg hI
  .exact hn fw m' U' _ w' Kg hI
theorem s8{ops:Array Oper}:∀{l:List Oper}{bS:List LO},mA P ops l=some bS->∀(o:Oper)(r:List Oper),l=o::r->∃lo lr,bS=lo::lr/\vC P ops o=some lo/\mA P ops r=some lr:=by rintro l bS h o r rfl;simp only[mA,RX,N0]at h;obtain⟨lo,h1,lr,h2,h3⟩:=h;cases h3;exact⟨lo,lr,rfl,h1,h2⟩
theorem Ag{aX:List CV}{s:Nat}{t:Bool}(h:kh aX s=aE t):aW aX s (aE t)=aX:=by
 rw[a8];rw[lN]at h;cases hg:aX[s]? with
 |none=>rw[hg]at h;cases h
 |some c=>
  rw[hg]at h;simp only[abC]at h;subst h;exact abF λi=>by
   by_cases hi:s=i
   .subst hi;rw[Tr (I4.1 hg).1,hg]
   .rw[WE hi]
theorem vY{ops:Array Oper}{Q:Exit->Act->World->Prop}{K:List CV->Mem->Prop}(hQ:∀aX m U a w,K aX m->Inv N ρ0 m0 w0 ⟨aX,m⟩ U a w->Q .normal a w):
  ∀(l:List Oper)(k:Nat)(bS:List LO)(aX:List CV)(m:Mem)(U:bF)(a:Act)(w:World),ops.toList.drop k=l->mA P ops l=some bS->HX P bS K aX m->Inv N ρ0 m0 w0 ⟨aX,m⟩ U a w->
   wpOps P ops Q (List.range' k l.length) a w
 | [],k,bS,aX,m,U,a,w,hl,jE,h,hI=>by simp[mA]at jE;subst jE;exact hQ aX m U a w h hI
 |o::r,k,bS,aX,m,U,a,w,hl,jE,h,hI=>by
  obtain⟨lo,lr,rfl,h1,h2⟩:=s8 jE o r rfl;have gO:ops[k]? =some o:=by
   have:(ops.toList.drop k)[0]? =some o:=by rw[hl];rfl
   simpa using this
  have hr:ops.toList.drop (k+1)=r:=by rw[<-List.tail_drop,hl];rfl
  have ih:=λaX m U a w=>vY hQ r (k+1) lr aX m U a w hr h2
  simp only[vC,RX,N0]at h1;obtain⟨i,hi,g,hg,h1⟩:=h1;cases h1;simp only[aah,acS,wpOps,gO];have skip:∀(e:List CV),Inv N ρ0 m0 w0 ⟨e,m⟩ U a w->(put o.dst .undef e λe'=>HX P lr K e' m)->wpOps P ops Q (List.range' (k+1) r.length) (a.put o.dst Go.undef) w:=λe XN hp=>by obtain⟨fw,Kg,px⟩:=XN.step (d:=o.dst) (c:= .undef) (v:=Go.undef) XN.mem rfl (Ext.refl _ _ _) hp;exact ih _ _ _ _ _ Kg px
  have exec:∀(e:List CV),Inv N ρ0 m0 w0 ⟨e,m⟩ U a w->(step P i e m λv m'=>put o.dst v e λe'=>HX P lr K e' m')->o.wp P a w (wpOps P ops Q (List.range' (k+1) r.length)) Q:=λe XN hp=>
   Cc hi XN hp λfw m' U' a' w' Kg px=>ih _ _ _ _ _ Kg px
  cases Ll:o.guard with
  |none=>
   rw[Ll]at hg;simp[KH]at hg;subst hg;have hw:Region.wanted o (yielded ops a.tmps)=true:=by simp[Region.wanted,Ll]
   rw[if_pos hw];simp only[yw,Gy,eY]at h;exact .inl (exec aX hI h)
  |some jb=>
   obtain⟨j,jP⟩:=jb;rw[Ll]at hg;simp only[KH,RX,N0]at hg;obtain⟨oj,Y1,s,hs,hg⟩:=hg;cases hg;have hy:yielded ops a.tmps j=match a.tmps[s]? with|some (.bool b)=>some b|_=>none:=by simp[yielded,Y1,hs];rfl
   simp only[yw,Gy]at h;split at h
   .rename_i d7;have cq:=hI.aX.get s;rw[d7]at cq;have hu:a.tmps[s]? =some Go.undef\/a.tmps[s]? =none:=by
     simp only[bZ,abG]at cq;cases ht:a.tmps[s]? with
     |none=>exact .inr rfl
     |some v=>rw[ht]at cq;simp at cq;exact .inl (by rw[cq])
    have hw:Region.wanted o (yielded ops a.tmps)=false:=by
     simp only[Region.wanted,Ll,hy];rcases hu with hu|hu<;>rw[hu]<;>rfl
    rw[if_neg (by simp[hw])]
    exact skip aX hI h
   .rename_i t d7;have cq:=hI.aX.get s;rw[d7]at cq;have ht:a.tmps[s]? =some (.bool t):=by
     have:=(bJ cq).1;rw[abG]at this;cases ht:a.tmps[s]? with
     |none=>rw[ht]at this;cases this
     |some v=>rw[ht]at this;simp at this;rw[this]
    have hw:Region.wanted o (yielded ops a.tmps)=(t==jP):=by simp[Region.wanted,Ll,hy,ht]
    have rn:∀b,t=b->aW aX s (aE b)=aX:=λb hb=>by subst hb;exact Ag d7
    rcases cn.1 h with⟨rfl,h⟩|⟨rfl,h⟩
    .simp only[eY,rn true rfl]at h;cases jP with
     |true=>rw[if_pos (by simp[hw])];exact .inl (exec aX hI h)
     |false=>rw[if_neg (by simp[hw])];exact skip aX hI h
    .simp only[eY,rn false rfl]at h;cases jP with
     |false=>rw[if_pos (by simp[hw])];exact .inl (exec aX hI h)
     |true=>rw[if_neg (by simp[hw])];exact skip aX hI h
   .exact h.elim
theorem bh.di{U:bF}{w:World}{pos:Option (Nat×Nat×Nat)}{c:CC}{v:Value}(h:bh U w pos c v):c.di U.n:=by
 cases c<;>simp only[bh]at h<;>simp only[CC.di]
 case ptr=>exact h.1
 case nb=>exact h.1
 case row=>exact h.1
 case map=>exact h.1
 case fn=>exact h.1
theorem dq.di{U:bF}{w:World}{r:RV}{v:Value}(h:dq U w r v):r.di U.n:=by
 cases r with
 |one c=>exact bh.di h
 |agg cs=>
  obtain⟨vs,_,_,hc⟩:=h;intro c q8;obtain⟨i,hi⟩:=Xt q8;obtain⟨u,_,hd⟩:=hc i c hi;exact hd.di
theorem bZ.di{U:bF}{w:World}{c:CV}{v:Value}(h:bZ U w c v):c.di U.n:=by
 cases c with
 |ap=>trivial
 |undef=>trivial
 |rv r=>exact dq.di h
 |bz rs=>
  obtain⟨vs,_,_,hc⟩:=h;intro r hr;obtain⟨i,hi⟩:=Xt hr;obtain⟨u,_,hd⟩:=hc i r hi;exact hd.di
theorem cI.di{U:bF}{w:World}{id:Nat}{b:Bk}(h:cI U w id b):b.di U.n:=by
 cases b with
 |aS=>trivial
 |var cs=>
  obtain⟨cur,_,hc⟩:=h;intro c q8;obtain⟨i,hi⟩:=Xt q8;obtain⟨u,_,hd⟩:=hc i c hi;exact hd.di
 |row esz elems=>
  obtain⟨h1,h2,h3,h4,h5⟩:=h;intro cs eB c q8;obtain⟨i,hi⟩:=Xt eB;obtain⟨j,hj⟩:=Xt q8;have aD:=(I4.1 hi).1;obtain⟨cur,_,_,hc⟩:=h5 om;obtain⟨u,_,hd⟩:=hc i cs j c hi hj;exact hd.di
 |mp es=>
  obtain⟨bx,ck,_,_,hc⟩:=h;intro e he;obtain⟨i,hi⟩:=Xt he;obtain⟨e',_,_,hd⟩:=hc i e hi;exact hd.di
 |it cur left=>trivial
 |mo esz es so=>
  obtain⟨bx,ck,_,⟨_,hc⟩,_⟩:=h;intro e he;obtain⟨i,hi⟩:=Xt he;obtain⟨e',_,_,_,hd⟩:=hc i e hi;obtain⟨k,v⟩:=e;cases v with
  |dV l=>trivial
  |row n=>exact hd.1
 |iw mid gU seen=>exact h.1
theorem mB.get:∀{m m':Mem},mB m m'->∀(i:Nat)b',m'[i]? =some b'->b'= .aS\/m[i]? =some b'
 |_,_,.nil m,i,b',h=>by simp at h
 |_,_,.cons (b:=b) (b':=b1) (m:=m) (m':=m') h hm,i,b',hi=>by
  cases i with
  |zero=>simp at hi;subst hi;rcases h with rfl|rfl<;>simp
  |succ i=>simpa using hm.get i b' (by simpa using hi)
theorem KM.Y2{n0:Nat}{s s':St}{U:bF}{w:World}(h:KM n0 s s')(hM:au U s.mem w):∀b,b∈s'.mem->b.di s'.mem.length:=by
 rcases h.jW with he|hi
 .intro b hb;obtain⟨i,hi⟩:=Xt hb;rcases h.mem.get i b hi with rfl|sX
  .trivial
  .have:=(hM.bk i b sX).di;rw[he,<-hM.n];exact this
 .exact hi
theorem KM.view{n0:Nat}{s s':St}(hw:KM n0 s s'):View n0 s s':=by
 refine⟨hw.n0,hw.len,λU w lR=>?_⟩
 obtain⟨hM,bY⟩:=lR.KO hw.mem (hw.Y2 lR);refine⟨{U with n:=s'.mem.length},hM,⟨λ_ _=>rfl,λ_ h=>h,λ_ h=>.inl h,λk hk=>⟨k,bY k hk,rfl⟩⟩,λi c hi=>?_⟩
 rcases hw.aX i c hi with rfl|⟨ew,KP⟩
 .have aD:i<s.aX.length:=by rw[<-hw.len];exact(I4.1 hi).1
  exact⟨_,uX aD,λ_ _=>trivial⟩
 .refine⟨c,ew,λv hd=>?_⟩
  have Vu:c.di s'.mem.length:=by
   rcases KP with he|KP
   .rw[he,<-lR.n];exact hd.di
   .exact KP
  exact hd.cut Vu
theorem Inv.KO{st jh:St}{U:bF}{a:Act}{w:World}(hI:Inv N ρ0 m0 w0 st U a w)(lR:ρ0.n=m0.length)(hw:View m0.length st jh):∃U',Inv N ρ0 m0 w0 jh U' a w:=by
 obtain⟨U',hM,hc,hd⟩:=hw.go U w hI.mem;refine⟨U',⟨by rw[lR,hM.n];exact hw.hn,λid hid=>(hc.aH id (by rw[<-lR];exact hid)).trans (hI.ext.aH id hid),λb hb=>hc.S b (hI.ext.S b hb),λb hb=>?_,λk hk=>?_,hI.ext.frame,hI.ext.size,hI.ext.os,hI.ext.tape,hI.ext.output⟩,hM,?_,hI.defers.s hc.S,hI.hN,hw.hn⟩
 .rcases hc.S' b hb with h|⟨k,hk,rfl⟩
  .exact hI.ext.S' b h
  .exact .inr (hI.ext.aQ k hk)
 .obtain⟨k0,h0,e0⟩:=hc.aQ k hk;rw[<-e0];exact hI.ext.aQ k0 h0
 .refine⟨hI.aX.size.trans hw.len.symm,λi c hi=>?_⟩
  obtain⟨c0,u7,Lm⟩:=hd i c hi;obtain⟨v,hv,pI⟩:=hI.aX.jR i c0 u7;exact⟨v,hv,Lm v pI⟩
end
section
variable {P:Program}
theorem aq.mono{f:Nat}{args:List CV}{m:Mem}{K K':CV->Mem->Prop}(h:aq P f args m K)(hK:∀v m',K v m'->K' v m'):aq P f args m K':=
 ⟨h.1,λU w vs hM hl hd=>(h.2 U w vs hM hl hd).mono λe w'⟨v,r,m',U',he,hk,qT⟩=>⟨v,r,m',U',he,hK _ _ hk,qT⟩⟩
theorem Ez{i:I}(hq:sP i=true){e:List CV}{m:Mem}{K:CV->Mem->Prop}(h:step P i e m K):
  ∃v,K v m/\∀K':CV->Mem->Prop,K' v m->step P i e m K':=by
 cases i<;>simp[sP,yu]at hq
 case load agg n a=>
  simp only[step,vr,aZ,cn]at h|-;repeat' split at h
  all_goals(try exact h.elim)
  all_goals grind
 all_goals simp only[step,aZ,cn]at h|-
 all_goals(repeat' split at h)
 all_goals(try exact h.elim)
 all_goals(try(exact⟨_,h,λ_ h=>h⟩))
 all_goals grind
theorem Ip{i:I}(hq:yu i=true){e:List CV}{m:Mem}{K:CV->Mem->Prop}(h:step P i e m K):
  ∃v,K v m/\∀(m':Mem)(K':CV->Mem->Prop),K' v m'->step P i e m' K':=by
 cases i<;>simp[yu]at hq
 all_goals simp only[step,aZ,cn]at h|-
 all_goals(repeat' split at h)
 all_goals(try exact h.elim)
 all_goals(try(exact⟨_,h,λ_ _ h=>h⟩))
 all_goals grind
theorem yN{i:I}{e:List CV}{m:Mem}{K K':CV->Mem->Prop}(h:step P i e m K)(hK:∀v m',K v m'->K' v m'):step P i e m K':=by
 cases i
 case call f args=>
  simp only[step]at h|-;split at h
  .exact h.mono hK
  .exact h.elim
 case load agg n a=>
  simp only[step,vr,aZ,cn]at h|-;repeat' split at h
  all_goals(try exact h.elim)
  all_goals grind
 case len k x=>
  simp only[step,aZ,cn]at h|-;repeat' split at h
  all_goals(try exact h.elim)
  all_goals grind
 all_goals simp only[step,aZ,cn,gx,eY]at h|-
 all_goals(try exact hK _ _ h)
 all_goals(try(repeat' split at h))
 all_goals(try exact h.elim)
 all_goals(try exact hK _ _ h)
 all_goals grind
theorem s9{e e':List CV}:∀{xs:List X},(∀x,x∈xs->x.ev e=x.ev e')->Gt e xs=Gt e' xs
 | [],_=>rfl
 |x::r,h=>by simp only[Gt];rw[h x aC,s9 λy hy=>h y (by simp[hy])]
theorem ut{e e':List CV}:∀{ps:List (Nat×Nat×X)}{z:List CC},(∀x,x∈ps.map (λp=>p.2.2)->x.ev e=x.ev e')->nZ e z ps=nZ e' z ps
 | [],_,_=>rfl
 |(o,s,x)::r,z,h=>by
  simp only[nZ];rw[h x aC];have ih:=λz=>ut (ps:=r) (z:=z) λy hy=>h y (by simp at hy|-;exact .inr hy)
  simp only[ih]
theorem uu{e e':List CV}{esz:Nat}:∀{ps:List (Nat×X)}{z:List (List CC)},(∀x,x∈ps.map (λp=>p.2)->x.ev e=x.ev e')->ub e esz z ps=ub e' esz z ps
 | [],_,_=>rfl
 |(i,x)::r,z,h=>by
  simp only[ub];rw[h x aC];have ih:=λz=>uu (esz:=esz) (ps:=r) (z:=z) λy hy=>h y (by simp at hy|-;exact .inr hy)
  simp only[ih]
theorem EA{i:I}{e e':List CV}{m:Mem}{K:CV->Mem->Prop}(hx:∀x,x∈i.xs->x.ev e=x.ev e')(h:step P i e m K):step P i e' m K:=by
 cases i<;>simp only[I.xs,aa1,acn,or_false,forall_eq_or_imp,forall_eq]at hx
 case build z ps=>simpa only[step,ut hx]using h
 case nC esz z len ps=>simpa only[step,uu hx]using h
 case fn f eh=>simpa only[step,s9 hx]using h
 case call f args=>simpa only[step,hx.1,s9 hx.2]using h
 case load agg n a=>simpa only[step,vr,hx]using h
 case jO mx xs=>
  rcases xs with _|⟨x,_|⟨y,_|⟨z,r⟩⟩⟩
  .exact h
  .exact h
  .have h1:=hx x aC;have h2:=hx y aC;simpa only[step,h1,h2]using h
  .exact h
 case nR esz x lo hi mx=>
  have Ln:∀(o:Option X)(d:Nat),(∀y,y∈o.toList->y.ev e=y.ev e')->kO e o d=kO e' o d:=λo d ho=>by
   cases o with
   |none=>rfl
   |some y=>simp only[kO];rw[ho y aC]
  have hz:∀(o:Option X),(∀y,y∈o.toList->y.ev e=y.ev e')->D3 e o=D3 e' o:=λo ho=>by
   cases o with
   |none=>rfl
   |some y=>simp only[D3];rw[ho y aC]
  have h1:∀d,kO e lo d=kO e' lo d:=λd=>Ln lo d λy hy=>hx.2 y (by simp[hy])
  have h2:∀d,kO e hi d=kO e' hi d:=λd=>Ln hi d λy hy=>hx.2 y (by simp[hy])
  have h3:D3 e hi=D3 e' hi:=hz hi λy hy=>hx.2 y (by simp[hy])
  cases mx with
  |none=>simpa only[step,hx.1,h1,h2]using h
  |some y=>
   have h4:y.ev e=y.ev e':=hx.2 y aC;simpa only[step,hx.1,h1,h2,h3,h4]using h
 case HU x lo hi=>
  have Ln:∀(o:Option X)(d:Nat),(∀y,y∈o.toList->y.ev e=y.ev e')->kO e o d=kO e' o d:=λo d ho=>by
   cases o with
   |none=>rfl
   |some y=>simp only[kO];rw[ho y aC]
  have h1:∀d,kO e lo d=kO e' lo d:=λd=>Ln lo d λy hy=>hx.2 y (by simp[hy])
  have h2:∀d,kO e hi d=kO e' hi d:=λd=>Ln hi d λy hy=>hx.2 y (by simp[hy])
  simpa only[step,hx.1,h1,h2]using h
 case len k x=>
  match k with
  |0=>simpa only[step,hx]using h
  |1=>simpa only[step,hx]using h
  |2=>simpa only[step,hx]using h
  |k+3=>simpa only[step,hx]using h
 all_goals first
  |(simpa only[step,hx,hx.1,hx.2]using h)
  |(simpa only[step,hx]using h)
  |(simpa only[step]using h)
end
end Go.AM
