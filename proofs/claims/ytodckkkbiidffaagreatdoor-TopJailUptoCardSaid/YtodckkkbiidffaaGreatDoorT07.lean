/- Part 7 of 39: what the law stands on. -/
import Derived.Test.YtodckkkbiidffaaGreatDoorT04
import Derived.Test.YtodckkkbiidffaaGreatDoorT05
import Derived.Laws.IdiomStrings
import Derived.Laws.MakeOwn
import Derived.MapKept
import Derived.Maps.RangeRun
set_option linter.unusedVariables false
set_option linter.unusedSimpArgs false
set_option linter.unnecessarySimpa false
set_option maxRecDepth 100000
set_option maxHeartbeats 64000000
namespace Go.AM
open Go.MapKept
section
variable {P:Program} {ρ:bG} {m:Mem} {w:World} {aV:List CV} {a:Act} {K:CV->Mem->Prop}
theorem vR:∀{E:List (List CC)}{xs:List Int},nK E=some xs->E=xs.map fun n=>[.aa (.val (.int .u8 n))]
 | [],xs,h=>by simp[nK]at h;subst h;rfl
 |cs::r,xs,h=>by
  unfold nK at h;split at h
  .rename_i heq;cases heq
  .rename_i n r' heq;cases heq;split at h
   .rename_i l hl;cases h;rw[vR hl];rfl
   .cases h
  .cases h
theorem Fq(hM:aA ρ m w)(hE:be ρ w aV a.tmps){s d e:TypeId}{x:Operand}{x':X}(hs:P.underlying s=some (.slice e))(he:P.underlying e=some (.int .u8))(hd:P.underlying d=some .string)(hx:bh x=some x')(h:step P (.Oc x') aV m K):di P (do pure (Next.value (<-convert s d (a.eval x)))) ρ m w K:=by
 have bY:=aN hE hx;simp only[step]at h;obtain⟨E,xi,h⟩:=bc.1 h;obtain⟨xs,UC,hK⟩:=bc.1 h;obtain⟨ad,cap,vs,hv,h1,h2,F⟩:=lH hM xi bY;have Xt:=vR UC;have A7:∀i,i<xs.length->vs[i]? =some (.int .u8 (xs.getD i 0)):=by
  intro i hi;have hg:E[i]? =some [.aa (.val (.int .u8 xs[i]))]:=by rw[Xt,NO,sA hi];rfl
  obtain⟨u,hu,b8⟩:=F.jP i _ 0 _ hg rfl;cases b8 with
  |val v hp=>
   rw[show i=i*1+0 by omega,hu]
   simp[List.getD,sA hi]
 have hlen:E.length=xs.length:=by rw[Xt];simp
 refine di.pure hM (v:= .string (strOfNums xs)) ?_ hK (b9 rfl);rw[hv,Sem.run_bind];rcases aap E.length with h0|h0
 .have Q8:xs=[]:=Wg om;subst Q8;rw[h0];cases ad with
  |none=>rw[run_convert_bytes_nil (P:=P) w s e hs he 0 cap d hd];rfl
  |some ad=>
   obtain⟨b,off,sp⟩:=ad;have:(convert s d (.slice (some ⟨b,off,sp⟩) 0 cap)).run P w= .ok (.string (strOfNums [])) w:=by
    rw[run_convert_bytes_string w s d e _ 0 cap hs he hd,run_bytesToString w _ 0 cap [] (by simp[loadCells,loadCellsFrom])]
    rfl
   rw[this];rfl
 .obtain⟨b,off,rfl,hc⟩:=F.Oq h0;rw[run_convert_bytes_arg (P:=P) w s e hs he b off E.length cap xs hlen.symm (fun i hi=>hc i _ (A7 i om)) d hd]
  rfl
theorem o6(hM:aA ρ m w){esz cap:Nat}{elems:List (List CC)}{cells:Array Value}{w':World}(M7:dW w w')(bS:kQ (esz=1) w' w.heap.size cells)(dn:cap*esz<=cells.size)(hlen:elems.length<=cap)(bl:cap<=maxLen)(nD:∀cs,cs∈elems->cs.length=esz)(hd:∀(i:Nat)cs(j:Nat)c,elems[i]? =some cs->cs[j]? =some c->∃u,cells[i*esz+j]? =some u/\bq ρ w .none c u):
  ∃ρ',aA ρ' (m++ [.row esz elems]) w'/\Ext ρ m w ρ' (m++ [.row esz elems]) w'/\
   bV ρ' w' (.rv (.one (.row m.length esz 0 none))) (.slice (some ⟨w.heap.size,0,none⟩) elems.length cap):=by
 have aE:w.heap.size<w'.heap.size:=bS.lt;let l:uW:=⟨w.heap.size,0,elems.length,cap⟩;have hn:=hM.n;have cz:(ρ.push l).aP (.ap m.length)=l:=by rw[<-hn];exact ρ.fQ l
 have g:hB ρ w (ρ.push l) w':=⟨by simp[bG.push],fun k hk=>ρ.ek l hk,fun b hb=>hb,fun b hb=>M7.heap b (hM.S b hb)⟩
 have hb:dV (ρ.push l) w' m.length (.row esz elems):=by
  refine⟨by rw[cz],by rw[cz];exact hlen,by rw[cz];exact bl,nD,fun _=>⟨cells,by rw[cz];exact bS,by rw[cz];simpa[l]using dn,fun i cs j c hi hj=>?_⟩⟩
  obtain⟨u,hu,b8⟩:=hd i cs j c hi hj;exact⟨u,by rw[cz];simpa[l]using hu,(b8.cE g aI).ti _⟩
 obtain⟨h1,h2⟩:=hM.push (l:=l) M7 (Pq _) aE hb (fun i cs j c hi hj=>by obtain⟨u,hu,b8⟩:=hd i cs j c hi hj;exact b8.xb)
 refine⟨_,h1,h2,by simp[bG.push,hn],?_⟩
 rw[cz];refine⟨aI,aI,hlen,bl,_,rfl,fun _=>?_⟩
 simp[l]
theorem Fr(hM:aA ρ m w)(hE:be ρ w aV a.tmps){s d e:TypeId}{x:Operand}{x':X}(hs:P.underlying s=some .string)(hd:P.underlying d=some (.slice e))(he:P.underlying e=some (.int .u8))(hx:bh x=some x')(h:step P (.Oa x') aV m K):di P (do pure (Next.value (<-convert s d (a.eval x)))) ρ m w K:=by
 have bY:=aN hE hx;simp only[step]at h;generalize a.eval x=v at bY⊢;generalize x'.ev aV=c at bY h;split at h
 .rename_i str;obtain⟨rfl,hp⟩:=bJ bY;obtain⟨dn,hK⟩:=h;rw[gy,cf]at hK;have eu:=grownCap_ge w str.size 0 e;have hle:grownCap w str.size 0 e<=maxLen:=grownCap_le_maxLen w _ 0 e (by unfold maxLen;omega)
  have eY:(bytesRow str (grownCap w str.size 0 e)).size=grownCap w str.size 0 e:=by simp only[bytesRow,Array.size_append,Array.size_map,Array.size_replicate];have:str.data.size=str.size:=rfl;omega
  have hlen:(js str).length=str.size:=by simp[js]
  obtain⟨ρ',g1,g2,g3⟩:=o6 hM (esz:=1) (cap:=grownCap w str.size 0 e) (elems:=js str) (cells:=bytesRow str (grownCap w str.size 0 e))
   (w':=w.drew.alloc (.cells (bytesRow str (grownCap w str.size 0 e)) e ((bytesRow str (grownCap w str.size 0 e)).size,(bytesRow str (grownCap w str.size 0 e)).size+1)))
   ((dW.drew w).trans (dW.alloc w.drew _)) ⟨e,_,heap_alloc_new w.drew _,aI,(fun i hi=>by simp;omega),.inl rfl⟩ (by rw[eY];omega) (by rw[hlen];exact eu) hle
   (fun cs eY=>by simp only[js,Z5]at eY;obtain⟨_,_,rfl⟩:=eY;rfl)
   (fun i cs j c hi hj=>by
    simp only[js,NO]at hi;obtain⟨b,hb,rfl⟩:=Yx.1 hi;cases j with
    |zero=>
     simp at hj;subst hj;refine⟨.int .u8 b.toNat,?_,.val _ rfl⟩;have qn:str.data[i]? =some b:=by simpa using hb
     have aE:=(Z4.1 qn).1;simp only[bytesRow,Nat.mul_one,abC];rw[abk (by simpa using aE),abY,qn]
     rfl
    |succ j=>simp at hj)
  rw[hlen]at g3;exact⟨_,_,_,_,_,ρ',by rw[Sem.run_bind,run_bytes_of_string w s d e str hs hd he];rfl,.inl rfl,hK,g1,g3,g2⟩
 .exact h.elim
theorem vf(hM:aA ρ m w)(hE:be ρ w aV a.tmps){t e:TypeId}{i:TypeInfo}{z:List CC}{x y:Operand}{x' y':X}(ht:P.underlying t=some (.slice e))(hi:P.info? e=some i)(hz:dB P e=some z)(dn:i.size=z.length)(dd:0<z.length)(hb:0<i.bytes)(hx:bh x=some x')(hy:bh y=some y')(h:step P (.nl i.size i.bytes z x' y') aV m K):di P (do pure (Next.value (<-Instr.makeSlice t (a.eval x) (a.eval y)))) ρ m w K:=by
 simp only[step]at h;obtain⟨l,hl,h⟩:=bc.1 h;obtain⟨c,hc,h⟩:=bc.1 h;rcases cg.1 h with⟨pY,h⟩|⟨_,h⟩
 case inr=>exact h.elim
 have pY:l=c:=Wh pY;subst pY;obtain⟨iX,hK⟩:=h;rw[gy,cf]at hK;have nat:∀{c:CV}{v:Value}{k:Nat},nC c=some k->bV ρ w c v->∃kd,v= .int kd (k:Int):=by
  intro c v k h hd;unfold nC at h;split at h
  .cases h;obtain⟨rfl,_⟩:=bJ hd;exact⟨_,rfl⟩
  .cases h
 obtain⟨kl,vg⟩:=nat hl (aN hE hx);obtain⟨kc,Q9⟩:=nat hc (aN hE hy);have A6:=hz;simp only[dB,N7,Jm]at A6;obtain⟨i',dP,zv,Li,Le⟩:=A6;rw[hi]at dP;cases dP;obtain⟨UR,Ow⟩:=ep (ρ:=ρ) (w:=w) Le;have KO:zv.cells.size=z.length:=by simpa using UR
 have BG:l<=140737488355328:=aaP (abG _ hb) iX;obtain⟨ρ',g1,g2,g3⟩:=o6 hM (esz:=i.size) (cap:=l) (elems:=fC l z) (cells:=madeCells zv.cells (l*i.size)) (w':=w.alloc (.cells (madeCells zv.cells (l*i.size)) e))
  (dW.alloc w _) (kQ.new w _ e) (by rw[size_madeCells];exact Pq _) (by rw[fb];simp) (by unfold maxLen;omega)
  (fun cs eY=>by rw[fb]at eY;rw[aba eY,dn])
  (fun k cs j cc hk hj=>by
   rw[fb]at hk;have iP:=(Gf.1 hk).1;simp at iP;have eY:cs=z:=by have:=NQ hk;exact aba this
   subst eY;have yJ:=(Gf.1 hj).1;obtain⟨u,hu,b8⟩:=Ow j cc hj;refine⟨u,?_,b8⟩;have aE:k*i.size+j<l*i.size:=by have:(k+1)*i.size<=l*i.size:=aag _ iP;rw[aas,aaY]at this;omega
   simp only[madeCells,abY,Array.getElem?_range];rw[if_pos aE];simp only[Wn,Wm];have hm:(k*i.size+j)%zv.cells.size=j:=by rw[KO,dn,abD,ab9,ab4 yJ]
   rw[hm];have so:zv.cells[j]? =some u:=by simpa using hu
   rw[getElem!_def,so])
 have Ra:(fC l z).length=l:=by rw[fb];simp
 rw[Ra]at g3;refine⟨_,_,_,_,_,ρ',?_,.inl rfl,hK,g1,g3,g2⟩;rw[vg,Q9,Sem.run_bind,run_make (P:=P) w t e i zv ht hi Li kl kc (l:Int) (l:Int) om (abK _) ?_ om]
 .rfl
 .have:i.bytes*l<=140737488355328:=by rw[abD];exact iX
  have h2:((i.bytes*l:Nat):Int)<=((140737488355328:Nat):Int):=Int.ofNat_le.2 this;rw[Int.natCast_mul]at h2;exact Int.le_trans h2 om
def iI:Ky->TypeDesc
 | .i k=>.int k
 | .s=>.string
 | .b=>.bool
theorem vS{t:TypeId}{kk:Ky}(h:Fb P t=some kk):P.underlying t=some (iI kk):=by
 unfold Fb at h;split at h<;>simp at h<;>subst h<;>assumption
theorem zd{kk:Ky}{v:Value}(h:u7 kk v=true):IsKey (iI kk) v:=by
 cases kk<;>cases v<;>simp_all[u7,IsKey,iI]
theorem vU{kk:Ky}{a b:Value}{t:Bool}(ha:u7 kk a=true)(h:vB a b=some t):Instr.sameNow (iI kk) a b=some t/\(t=true->a=b)/\(t=false->a≠b):=by
 cases kk<;>cases a<;>simp[u7]at ha<;>cases b<;>simp only[vB,reduceCtorEq]at h
 .rename_i k x k' y;split at h
  .rename_i hk;have hk:=of_decide_eq_true hk;subst hk;cases h;refine⟨by simp[Instr.sameNow,iI],fun h=>by simp at h;rw[h],fun h=>by simp at h;simpa using h⟩
  .cases h
 .rename_i x y;cases h;refine⟨by simp[Instr.sameNow,iI],fun h=>by rw[(bytes_beq _ _).1 h],fun h e=>?_⟩
  cases e;rw[(bytes_beq _ _).2 rfl]at h;cases h
 .rename_i x y;cases h;refine⟨by simp[Instr.sameNow,iI],fun h=>by simp at h;rw[h],fun h=>by simp at h;simpa using h⟩
theorem rJ{kk:Ky}{kv:Value}(hk:u7 kk kv=true):∀(es:List ME)(cH:List MapEntry)(n:Nat)(o:Option RV),cH.length=es.length->
  (∀(i:Nat)e,es[i]? =some e->∃e',cH[i]? =some e'/\e'.key=e.key/\du ρ w e.val e'.val)->yV kv es=some o->
  match o with
  |none=>Instr.findNow (iI kk) kv cH n=some none
  |some r=>∃j v,Instr.findNow (iI kk) kv cH n=some (some (n+j,v))/\du ρ w r v
 | [],[],n,o,_,_,h=>by simp[yV]at h;subst h;rfl
 | [],_::_,_,_,h,_,_=>by simp at h
 |_::_,[],_,_,h,_,_=>by simp at h
 |e::es,e'::cH,n,o,hl,hr,h=>by
  obtain⟨e0,h0,mw,bY⟩:=hr 0 e rfl;simp at h0;subst h0;simp only[yV]at h;cases hq:vB kv e.key with
  |none=>rw[hq]at h;cases h
  |some t=>
   obtain⟨q1,q2,q3⟩:=vU hk hq;rw[<-mw]at q1;cases t with
   |true=>
    rw[hq]at h;cases h;exact⟨0,e'.val,by simp[Instr.findNow,q1],bY⟩
   |false=>
    rw[hq]at h;have ih:=rJ hk es cH (n+1) o (by simpa using hl) (fun i x hx=>by simpa using hr (i+1) x (by simpa using hx)) h
    cases o with
    |none=>simpa[Instr.findNow,q1]using ih
    |some r=>
     obtain⟨j,v,h1,h2⟩:=ih;exact⟨j+1,v,by simp[Instr.findNow,q1,h1];omega,h2⟩
theorem tv{kk:Ky}{kv:Value}(hk:u7 kk kv=true)(r:RV):∀(es:List ME)(cH:List MapEntry)(n:Nat)(l:List ME),cH.length=es.length->
  (∀(i:Nat)e,es[i]? =some e->∃e',cH[i]? =some e'/\e'.key=e.key/\du ρ w e.val e'.val)->HC kv r es=some l->
  (Instr.findNow (iI kk) kv cH n=some none/\l=es++ [⟨kv,r⟩])\/∃j e',Instr.findNow (iI kk) kv cH n=some (some (n+j,e'.val))/\cH[j]? =some e'/\e'.key=kv/\l=es.set j ⟨kv,r⟩
 | [],[],n,o,_,_,h=>by simp[HC]at h;subst h;exact .inl ⟨rfl,rfl⟩
 | [],_::_,_,_,h,_,_=>by simp at h
 |_::_,[],_,_,h,_,_=>by simp at h
 |e::es,e'::cH,n,o,hl,hr,h=>by
  obtain⟨e0,h0,mw,bY⟩:=hr 0 e rfl;simp at h0;subst h0;simp only[HC]at h;cases hq:vB kv e.key with
  |none=>rw[hq]at h;cases h
  |some t=>
   obtain⟨q1,q2,q3⟩:=vU hk hq;rw[<-mw]at q1;cases t with
   |true=>
    rw[hq]at h;cases h;exact .inr ⟨0,e',by simp[Instr.findNow,q1],rfl,by rw[mw,q2 rfl],rfl⟩
   |false=>
    rw[hq]at h;simp only at h;split at h
    .rename_i l' Fs;cases h;rcases tv hk r es cH (n+1) l' (by simpa using hl) (fun i x hx=>by simpa using hr (i+1) x (by simpa using hx)) Fs with⟨h1,rfl⟩|⟨j,e1,h1,h2,h3,rfl⟩
     .exact .inl ⟨by simpa[Instr.findNow,q1]using h1,rfl⟩
     .exact .inr ⟨j+1,e1,by simp[Instr.findNow,q1,h1];omega,by simpa using h2,h3,rfl⟩
    .cases h
theorem rK(hM:aA ρ m w){t:TypeId}{r:Option Value}(hr:r=none\/∃k n kt et,r=some (.int k n)/\P.underlying t=some (.map kt et))(h:step P .sV aV m K):di P (do pure (Next.value (<-Instr.makeMap t r))) ρ m w K:=by
 simp only[step,gy,cf]at h;let l:uW:=⟨w.heap.size,0,0,0⟩;have hn:=hM.n;have cz:(ρ.push l).aP (.ap m.length)=l:=by rw[<-hn];exact ρ.fQ l
 obtain⟨h1,h2⟩:=hM.push (bk:= .mp []) (l:=l) (dW.alloc w (.map #[] 0)) (Pq _) (by simp[l]) (by refine⟨#[],0,⟨?_,aI,aI⟩,rfl,aI⟩;rw[cz];exact(heap_alloc w _).1) trivial
 refine⟨.value (.map (some w.heap.size)),.map (some w.heap.size),w.alloc (.map #[] 0),_,_,_,?_,.inl rfl,h,h1,⟨by simp[bG.push,hn],by rw[cz]⟩,h2⟩
 rcases hr with rfl|⟨k,n,kt,et,rfl,ht⟩
 .simp[Instr.makeMap]
 .simp[Instr.makeMap,run_underlying ht,asInt,asIntOf]
theorem Ft{t:TypeId}{z:RV}(h:DP P t=some z):∃v,(zeroValue t).run P w= .ok v w/\du ρ w z v:=by
 simp only[DP,N7,Jm]at h;obtain⟨i,hi,zv,Li,h⟩:=h;refine⟨zv,by simp[zeroValue,typeInfo,hi,Li],?_⟩
 split at h
 .rename_i cs;simp only[Jm]at h;obtain⟨zz,hz,h⟩:=h;cases h;obtain⟨h1,h2⟩:=ep (ρ:=ρ) (w:=w) hz;exact⟨cs.toList,aI,h1,h2⟩
 .simp only[Jm]at h;obtain⟨c,hc,h⟩:=h;cases h;exact od hc
theorem ze(hM:aA ρ m w){c:CV}{v:Value}{es:List ME}(h:HE m c=some es)(hd:bV ρ w c v):
  (v= .map none/\es=[])\/∃b cH clock,v= .map (some b)/\w.heap[b]? =some (.map cH clock)/\Bj ρ w es cH:=by
 unfold HE at h;split at h
 .rename_i id;split at h
  .rename_i Xu hb;cases h;rw[aU]at hb;obtain⟨aE,rfl⟩:=hd;obtain⟨cH,clock,h1,h2⟩:=hM.bk id _ hb;exact .inr ⟨_,cH,clock,rfl,h1.1,h2⟩
  .cases h
 .cases h;obtain⟨rfl,_⟩:=bJ hd;exact .inl ⟨rfl,rfl⟩
 .cases h
theorem BM(hM:aA ρ m w)(hE:be ρ w aV a.tmps){t kt vt:TypeId}{z:RV}{kk:Ky}{x k:Operand}{x' k':X}{b:Bool}(ht:P.underlying t=some (.map kt vt))(hz:DP P vt=some z)(hk:Fb P kt=some kk)(hx:bh x=some x')(Ln:bh k=some k')(h:step P (.E9 z kk x' k' b) aV m K):di P (do pure (Next.value (<-Instr.lookup t (a.eval x) (a.eval k) b))) ρ m w K:=by
 have yK:=aN hE hx;have BN:=aN hE Ln;simp only[step]at h;generalize a.eval x=xv at yK⊢;generalize a.eval k=kv at BN⊢;generalize k'.ev aV=kc at BN h;split at h
 .rename_i US;rcases cg.1 h with⟨iQ,h⟩|⟨_,h⟩
  case inr=>exact h.elim
  obtain⟨rfl,Ox⟩:=bJ BN (fun e=>by subst e;cases kk<;>simp[u7]at iQ)
  obtain⟨es,nD,h⟩:=bc.1 h;obtain⟨o,ho,hK⟩:=bc.1 h;have Fu:=vS hk;have mw:=zd iQ;obtain⟨zv,QO,Ow⟩:=Ft (ρ:=ρ) (w:=w) hz;have jP:∀(v:Value)(r:RV)(t:Bool),du ρ w r v->(b=true->bV ρ w (.bF [r,.one (.aa (.val (.bool t)))]) (.tuple #[v,.bool t])):=fun v r t hv _=>
   ⟨[v,.bool t],rfl,rfl,fun i r' hi=>by
    match i,hi with
    |0,hi=>cases hi;exact⟨v,rfl,hv⟩
    |1,hi=>cases hi;exact⟨_,rfl,.val _ rfl⟩⟩
  have go:∀(r:Option Nat)(cH:List MapEntry)(em:Bool),(∀(o':Option (Nat×Value)),Instr.findNow (iI kk) kv cH 0=some o'->
    (Instr.lookup t (.map r) kv b).run P w=((match o' with|some (_,v)=>(Pure.pure (v,true):Sem (Value×Bool))|none=>(do pure (<-zeroValue vt,false))).run P w).andThen fun p w'=>.ok (if b then .tuple #[p.1,.bool p.2]else p.1) w')->
    (cH.length=es.length/\∀(i:Nat)e,es[i]? =some e->∃e',cH[i]? =some e'/\e'.key=e.key/\du ρ w e.val e'.val)->di P (do pure (Next.value (<-Instr.lookup t (.map r) kv b))) ρ m w K:=by
   intro r cH em dq o7;have hf:=rJ (ρ:=ρ) (w:=w) iQ es cH 0 o o7.1 o7.2 ho;cases o with
   |none=>
    have h1:=dq none hf;simp only[Sem.run_bind,QO,Result.andThen_ok,Sem.run_pure]at h1;cases b with
    |false=>exact di.pure hM (v:=zv) (by rw[Sem.run_bind,h1];rfl) hK Ow
    |true=>exact di.pure hM (v:= .tuple #[zv,.bool false]) (by rw[Sem.run_bind,h1];rfl) hK (jP zv z false Ow rfl)
   |some r=>
    obtain⟨j,v,hf,hv⟩:=hf;have h1:=dq _ hf;simp only[Sem.run_pure,Result.andThen_ok]at h1;cases b with
    |false=>exact di.pure hM (v:=v) (by rw[Sem.run_bind,h1];rfl) hK hv
    |true=>exact di.pure hM (v:= .tuple #[v,.bool true]) (by rw[Sem.run_bind,h1];rfl) hK (jP v r true hv rfl)
  rcases ze hM nD yK with⟨rfl,rfl⟩|⟨r,cH,clock,rfl,hb,hl,hr⟩
  .refine go none [] true (fun o' iG=>?_) ⟨rfl,aI⟩
   cases o' with
   |none=>cases b<;>simp[Instr.lookup,run_underlying ht,run_checkKey Fu mw,run_findKey Fu iG,Result.andThen,QO]
   |some p=>cases b<;>simp[Instr.lookup,run_underlying ht,run_checkKey Fu mw,run_findKey Fu iG,Result.andThen]
  .refine go (some r) cH.toList cH.isEmpty (fun o' iG=>?_) ⟨by simpa using hl,fun i e he=>by
     obtain⟨e',h1,h2⟩:=hr i e he;exact⟨e',by simpa using h1,h2⟩⟩
   cases o' with
   |none=>cases b<;>simp[Instr.lookup,run_underlying ht,Go.MapKept.run_getObj_map hb,run_checkKey Fu mw,run_findKey Fu iG,Result.andThen,QO]
   |some p=>cases b<;>simp[Instr.lookup,run_underlying ht,Go.MapKept.run_getObj_map hb,run_checkKey Fu mw,run_findKey Fu iG,Result.andThen]
 .exact h.elim
theorem H0{c:CV}{v:Value}{r:RV}(h:Bm c=some r)(hd:bV ρ w c v):du ρ w r v:=by
 unfold Bm at h;split at h
 .cases h;exact hd
 .cases h
theorem l4.push{es:Array MapEntry}{clock:Nat}(h:l4 es clock){k v:Value}:l4 (es.push {key:=k,val:=v,born:=clock}) (clock+1):=by
 refine⟨fun e he=>?_,?_⟩
 .simp only[Array.toList_push,aaN,abg]at he;rcases he with he|rfl
  .exact Nat.lt_succ_of_lt (h.1 e he)
  .exact aa3 _
 .rw[Array.toList_push,aav,List.nodup_append];refine⟨h.2,aI,fun a ha b hb=>?_⟩
  obtain⟨e,he,rfl⟩:=Z5.1 ha;simp at hb;subst hb;exact Nat.ne_of_lt (h.1 e he)
theorem l4.YR{es:Array MapEntry}{clock:Nat}(h:l4 es clock){j:Nat}{k v:Value}:l4 (es.modify j fun e=>{e with key:=k,val:=v}) clock:=by
 have e1:(es.modify j fun e=>{e with key:=k,val:=v}).toList.map (·.born)=es.toList.map (·.born):=by
  apply aaL;intro i;rw[NO,NO,aa8,aa8,aaG];split
  .cases es[i]? <;>rfl
  .rfl
 refine⟨fun e he=>?_,by rw[e1];exact h.2⟩
 have:e.born∈es.toList.map (·.born):=by rw[<-e1];exact Z5.2 ⟨e,he,rfl⟩
 obtain⟨x,hx,hb⟩:=Z5.1 this;rw[<-hb];exact h.1 x hx
theorem tw(hM:aA ρ m w)(hE:be ρ w aV a.tmps){t kt vt:TypeId}{kk:Ky}{x k v:Operand}{x' k' v':X}(ht:P.underlying t=some (.map kt vt))(hk:Fb P kt=some kk)(hx:bh x=some x')(Ln:bh k=some k')(YS:bh v=some v')(h:step P (.wY kk x' k' v') aV m K):di P (do Instr.mapUpdate t (a.eval x) (a.eval k) (a.eval v);pure Next.skip) ρ m w K:=by
 have yK:=aN hE hx;have BN:=aN hE Ln;have uY:=aN hE YS;simp only[step]at h;generalize a.eval x=xv at yK⊢;generalize a.eval k=kv at BN⊢;generalize a.eval v=vv at uY⊢;generalize x'.ev aV=xc at yK h;split at h
 .rename_i id;generalize k'.ev aV=kc at BN h;split at h
  .rename_i US;rcases cg.1 h with⟨iQ,h⟩|⟨_,h⟩
   case inr=>exact h.elim
   obtain⟨rfl,Ox⟩:=bJ BN (fun e=>by subst e;cases kk<;>simp[u7]at iQ)
   obtain⟨bk,eO,h⟩:=bc.1 h;rw[aU]at eO;cases bk<;>simp only at h
   rename_i es;obtain⟨r,hr,h⟩:=bc.1 h;obtain⟨l,hl,hK⟩:=bc.1 h;rw[bg]at hK;have Fu:=vS hk;have mw:=zd iQ;have Qa:=H0 hr uY;obtain⟨aE,rfl⟩:=yK;obtain⟨cH,clock,⟨hb,TQ⟩,dn,o7⟩:=hM.bk id _ eO;have D3:∀o,jw w {w with heap:=w.heap.setIfInBounds (ρ.aP (.ap id)).b o} (ρ.aP (.ap id)).b:=fun o=>
    ⟨fun b eG=>(heap_set (o':=o) hb).2 b eG,aI,rfl,rfl,rfl⟩
   have cP:Live ρ m (.ap id):=⟨_,eO,aI,by rintro⟨_,_,e⟩;cases e⟩
   have iu:∀(Oy:Array MapEntry)(qq:Nat),l4 Oy qq->(Instr.mapUpdate t (.map (some (ρ.aP (.ap id)).b)) kv vv).run P w= .ok () {w with heap:=w.heap.setIfInBounds (ρ.aP (.ap id)).b (.map Oy qq)}->
     (hB ρ w ρ {w with heap:=w.heap.setIfInBounds (ρ.aP (.ap id)).b (.map Oy qq)}->Bj ρ {w with heap:=w.heap.setIfInBounds (ρ.aP (.ap id)).b (.map Oy qq)} l Oy)->di P (do Instr.mapUpdate t (.map (some (ρ.aP (.ap id)).b)) kv vv;pure Next.skip) ρ m w K:=by
    intro Oy qq UT dq YT;obtain⟨kJ,hX⟩:=hM.Ol (Bt:= .mp l) eO cP (D3 _) (fun g=>⟨Oy,qq,⟨(heap_set hb).1,UT⟩,YT g⟩) (by
     rintro i' j' esz e ⟨YU,rows,HP,mL,_,_⟩;rw[Pr (by rw[<-hM.n];exact aE)]at mL
     cases mL)
    refine⟨.skip,Go.undef,_,.undef,_,ρ,?_,.inr ⟨rfl,rfl⟩,hK,kJ,rfl,hX⟩;rw[Sem.run_bind,dq];rfl
   rcases tv (ρ:=ρ) (w:=w) iQ r es cH.toList 0 l (by simpa using dn) (fun i e he=>by
     obtain⟨e',h1,h2⟩:=o7 i e he;exact⟨e',by simpa using h1,h2⟩) hl with⟨hf,rfl⟩|⟨j,e',hf,hj,KP,rfl⟩
   .refine iu (cH.push {key:=kv,val:=vv,born:=clock}) (clock+1) (l4.push TQ) ?_ fun g=>⟨by simp[dn],fun i e he=>?_⟩
    .simp[Instr.mapUpdate,run_underlying ht,Go.MapKept.run_getObj_map hb,run_checkKey Fu mw,run_findKey Fu hf,run_setObj_map _ hb,Result.andThen]
    .rcases Wj i es.length with h1|h1
     .rw[Tz h1]at he;obtain⟨e',h2,h3,h4⟩:=o7 i e he;exact⟨e',by rw[Array.getElem?_push,if_neg om];exact h2,h3,h4.cE g⟩
     .have hi:=(Gf.1 he).1;simp at hi;have kT:i=es.length:=om;subst kT;simp at he;subst he;exact⟨_,by rw[Array.getElem?_push,if_pos dn.symm],rfl,Qa.cE g⟩
   .have uX:cH[j]? =some e':=by simpa using hj
    have dL:=(Z4.1 uX).1;refine iu (cH.modify j fun e=>{e with key:=kv,val:=vv}) clock (l4.YR TQ) ?_ fun g=>⟨by simp[dn],fun i e he=>?_⟩
    .rw[aai]at hf;simp[Instr.mapUpdate,run_underlying ht,Go.MapKept.run_getObj_map hb,run_checkKey Fu mw,run_findKey Fu hf,run_setObj_map _ hb,Result.andThen,uX,KP,run_keyThatStays mw]
    .rw[aan]at he;by_cases o8:j=i
     .subst o8;rw[if_pos rfl,if_pos om]at he;cases he;exact⟨{e' with key:=kv,val:=vv},by rw[aaG,if_pos rfl,uX];rfl,rfl,Qa.cE g⟩
     .rw[if_neg o8]at he;obtain⟨e2,h2,h3,h4⟩:=o7 i e he;exact⟨e2,by rw[aaG,if_neg o8];exact h2,h3,h4.cE g⟩
  .exact h.elim
 .exact h.elim
theorem aA.still(hM:aA ρ m w){id:Nat}{es:List ME}(hb:m[id]? =some (.mp es)):aA {ρ with S:=fun b=>ρ.S b\/b=(ρ.aP (.ap id)).b} (m.set id .aO) w/\Ext ρ m w {ρ with S:=fun b=>ρ.S b\/b=(ρ.aP (.ap id)).b} (m.set id .aO) w:=by
 have aE:id<m.length:=(Gf.1 hb).1;have cP:Live ρ m (.ap id):=⟨_,hb,aI,by rintro⟨_,_,e⟩;cases e⟩
 have g:hB ρ w {ρ with S:=fun b=>ρ.S b\/b=(ρ.aP (.ap id)).b} w:=⟨Pq _,fun _ _=>rfl,fun _ h=>.inl h,fun b hb=>rfl⟩
 have get:∀{k:Nat}{b:Bk},(m.set id .aO)[k]? =some b->(k≠id/\m[k]? =some b)\/(k=id/\b= .aO):=by
  intro k b hb;by_cases hk:k=id
  .subst hk;rw[Pr aE]at hb;exact .inr ⟨rfl,by simpa using hb.symm⟩
  .rw[Wf (Ne.symm hk)]at hb;exact .inl ⟨hk,hb⟩
 have gz:∀{k i j esz e},fg (m.set id .aO) k i j esz e->fg m k i j esz e:=by
  intro k i j esz e ho;obtain⟨es,rows,cs,hb,hi,hj⟩:=ho;rcases get hb with⟨_,hb⟩|⟨_,hb⟩
  .exact⟨es,rows,cs,hb,hi,hj⟩
  .cases hb
 have cW:∀k,Live {ρ with S:=fun b=>ρ.S b\/b=(ρ.aP (.ap id)).b} (m.set id .aO) k->Live ρ m k/\k≠.ap id:=by
  intro k hk;cases k with
  |ap k=>
   obtain⟨b,hb,hn,bl⟩:=hk;rcases get hb with⟨eG,hb⟩|⟨_,rfl⟩
   .exact⟨⟨b,hb,hn,bl⟩,fun e=>by cases e;exact eG rfl⟩
   .exact absurd rfl hn
  |sub k i j=>
   obtain⟨⟨esz,e,ho⟩,bl⟩:=hk;exact⟨⟨⟨esz,e,gz ho⟩,bl⟩,fun e=>by cases e⟩
 refine⟨⟨by simp[hM.n],?_,?_,fun k k' hk gv=>hM.inj k k' (cW k hk).1 (cW k' gv).1,?_,?_⟩,
  ⟨Pq _,fun _ _=>rfl,fun _ h=>.inl h,?_,fun k hk=>.inr ⟨k,(cW k hk).1,rfl⟩,fun _ _ _=>rfl,Pq _,rfl,rfl,rfl⟩⟩
 .rintro b (h|rfl)
  .exact hM.S b h
  .exact(hM.a7 _ cP).1
 .intro k hk;obtain⟨h1,h2⟩:=cW k hk;refine⟨(hM.a7 k h1).1,?_⟩;rintro(h|h)
  .exact(hM.a7 k h1).2 h
  .exact h2 (hM.inj k _ h1 cP h)
 .intro k b hb;rcases get hb with⟨_,hb⟩|⟨_,rfl⟩
  .exact(hM.bk k b hb).cE g (hM.fN hb) fun _ _=>rfl
  .trivial
 .intro k i j esz e ho bl;exact(hM.gh k i j esz e (gz ho) bl).cE g rfl
 .rintro b (h|rfl)
  .exact .inl h
  .exact .inr (.inr ⟨_,cP,rfl⟩)
theorem o9:∀{es:List ME}{l:List (Value×Value)},oU es=some l->∀(cH:List MapEntry),cH.length=es.length->(∀(i:Nat)e,es[i]? =some e->∃e',cH[i]? =some e'/\e'.key=e.key/\du ρ w e.val e'.val)->
  cH.map (fun e=>(e.key,e.val))=l/\∀p,p∈l->cG p.1=true/\cG p.2=true
 | [],l,h,cH,hl,hr=>by
  simp[oU]at h;subst h;have:cH=[]:=List.length_eq_zero_iff.1 (by simpa using hl)
  subst this;simp
 |e::r,l,h,[],hl,hr=>by simp at hl
 |e::r,l,h,e'::r',hl,hr=>by
  obtain⟨k,v⟩:=e;unfold oU at h;split at h
  .rename_i heq;cases heq
  .rename_i k1 v1 r1 heq;cases heq;split at h
   .rename_i hp;rw[SD]at hp;obtain⟨l1,y8,rfl⟩:=Yx.1 h;obtain⟨a1,a2⟩:=o9 y8 r' (by simpa using hl) (fun i e he=>by simpa using hr (i+1) e (by simpa using he))
    obtain⟨e0,h0,h1,h2⟩:=hr 0 _ rfl;simp only[abp,Wm]at h0;subst h0;have h3:e'.val=v1:=(bJ (ρ:=ρ) (w:=w) h2 (fun e=>by subst e;simp[cG]at hp)).1
    refine⟨by rw[aar,a1,h1,h3],fun p Oz=>?_⟩
    rcases aaf.1 Oz with rfl|Oz
    .exact hp
    .exact a2 p Oz
   .cases h
  .cases h
theorem Fv(hM:aA ρ m w)(hE:be ρ w aV a.tmps){t kt vt:TypeId}{x:Operand}{x':X}(ht:P.underlying t=some (.map kt vt))(hx:bh x=some x')(h:step P (.TI x') aV m K):di P (do pure (Next.value (<-Instr.range t (a.eval x)))) ρ m w K:=by
 have yK:=aN hE hx;simp only[step]at h;generalize a.eval x=xv at yK⊢;split at h
 .rename_i id heq;rw[heq]at yK;obtain⟨bk,eO,h⟩:=bc.1 h;rw[aU]at eO;cases bk<;>simp only at h
  rename_i es;obtain⟨l,hl,h⟩:=bc.1 h;rw[gy,cf,bg]at h;obtain⟨aE,rfl⟩:=yK;obtain⟨cH,clock,⟨hb,TQ⟩,dn,o7⟩:=hM.bk id _ eO;obtain⟨sJ,lI⟩:=hM.still eO;have D4:=o9 (ρ:=ρ) (w:=w) hl cH.toList (by simpa using dn) (fun i e he=>by
   obtain⟨e',h1,h2⟩:=o7 i e he;exact⟨e',by simpa using h1,h2⟩)
  let lo:uW:=⟨w.heap.size,0,0,0⟩;have hn:=sJ.n;have YV:=sJ.S _ (.inr rfl);obtain⟨h1,h2⟩:=sJ.push (bk:= .it [] l) (l:=lo) (dW.alloc w (.mapIter (some (ρ.aP (.ap id)).b) clock #[] clock)) (Pq _) (by simp[lo]) (by
   have cz:(bG.push {ρ with S:=fun b=>ρ.S b\/b=(ρ.aP (.ap id)).b} lo).aP (.ap (m.set id .aO).length)=lo:=by rw[<-hn];exact bG.fQ _ lo
   refine⟨(ρ.aP (.ap id)).b,#[],clock,cH,?_,?_,.inr rfl,?_,TQ,?_,aI,fun p hp=>D4.2 p (by simpa using hp)⟩
   .rw[cz];exact(heap_alloc w _).1
   .rw[cz]
   .exact((heap_alloc w _).2 _ YV).trans hb
   .rw[<-D4.1];congr 2;exact Array.filter_eq_self.2 aI) trivial
  refine⟨_,.pointer (some ⟨w.heap.size,0,none⟩),w.alloc (.mapIter (some (ρ.aP (.ap id)).b) clock #[] clock),_,_,_,?_,.inl rfl,h,h1,?_,lI.trans h2⟩
  .rw[Sem.run_bind,run_range_map w t kt vt (ρ.aP (.ap id)).b cH clock ht hb];rfl
  .have cz:(bG.push {ρ with S:=fun b=>ρ.S b\/b=(ρ.aP (.ap id)).b} lo).aP (.ap m.length)=lo:=by
    have:=bG.fQ {ρ with S:=fun b=>ρ.S b\/b=(ρ.aP (.ap id)).b} lo
    rw[<-hM.n];exact this
   refine⟨by show m.length<ρ.n+1;rw[hM.n];omega,?_⟩
   rw[cz]
 .exact h.elim
theorem tx:∀{L:List MapEntry}{i:Nat}{e:MapEntry},L[i]? =some e->(L.map (·.born)).Nodup->L.filter (fun x=>!(x.born==e.born))=L.eraseIdx i
 | [],i,e,h,_=>by simp at h
 |x::r,0,e,h,hn=>by
  simp only[abp,Wm]at h;subst h;rw[aar,abh]at hn;rw[ab6,if_neg aI,List.eraseIdx_zero,List.tail_cons];refine abW.2 fun y hy=>?_
  have:y.born≠x.born:=fun he=>hn.1 (he▸Z5.2 ⟨y,hy,rfl⟩)
  simpa using this
 |x::r,i+1,e,h,hn=>by
  simp only[aaU]at h;rw[aar,abh]at hn;have:x.born≠e.born:=fun he=>hn.1 (he▸Z5.2 ⟨e,NQ h,rfl⟩)
  rw[ab6,if_pos (by simpa using this),List.eraseIdx_cons_succ,tx h hn.2]
theorem Fw{cH:Array MapEntry}{clock:Nat}(hb:l4 cH clock){seen:Array Nat}{i:Nat}{e:MapEntry}(h:(cH.filter fun e=>!seen.contains e.born).toList[i]? =some e):
  (cH.filter fun x=>!(seen.push e.born).contains x.born).toList=(cH.filter fun e=>!seen.contains e.born).toList.eraseIdx i:=by
 have e0:(cH.filter fun e=>!seen.contains e.born).toList=cH.toList.filter fun e=>!seen.contains e.born:=aI
 have e1:(cH.filter fun x=>!(seen.push e.born).contains x.born).toList=cH.toList.filter fun x=>!(seen.push e.born).contains x.born:=aI
 rw[e0]at h⊢;rw[e1,<-tx h ((List.filter_sublist.map _).nodup hb.2),List.filter_filter];congr 1;funext x;by_cases h1:x.born=e.born<;>simp[h1,Array.contains_push,Bool.and_comm]
theorem Fx(hM:aA ρ m w)(hE:be ρ w aV a.tmps){ty:TypeId}{x:Operand}{x':X}(hx:bh x=some x')(h:step P (.ru x') aV m K):di P (do pure (Next.value (<-Instr.next (a.eval x) false ty))) ρ m w K:=by
 have yK:=aN hE hx;simp only[step]at h;generalize a.eval x=xv at yK⊢;split at h
 .rename_i id heq;rw[heq]at yK;obtain⟨bk,eO,h⟩:=bc.1 h;rw[aU]at eO;cases bk<;>simp only at h
  rename_i cur left;obtain⟨Rb,nO⟩:=h;obtain⟨aE,rfl⟩:=yK;obtain⟨mb,seen,clock,cH,h1,h2,h3,h4,h5,h6,h7,h8⟩:=hM.bk id _ eO;have cP:Live ρ m (.ap id):=⟨_,eO,aI,by rintro⟨_,_,e⟩;cases e⟩
  have hp:(Value.pointer (some ⟨(ρ.aP (.ap id)).b,(ρ.aP (.ap id)).au+0,none⟩))= .pointer (some ⟨(ρ.aP (.ap id)).b,0,none⟩):=by rw[h2]
  rw[hp];rcases run_next_at (P:=P) w ty (ρ.aP (.ap id)).b mb clock clock seen cH clock h1 h4 h5.1 (Pq _)with⟨h0,dq⟩|⟨e,he,w1,Rc,dq⟩
  .refine di.pure hM (v:= .tuple #[.bool false]) (by rw[Sem.run_bind,dq];rfl) (Rb ?_) ⟨[.bool false],rfl,rfl,fun i r hi=>?_⟩
   .rw[<-h6];have:(cH.filter fun e=>!seen.contains e.born).toList=[]:=List.length_eq_zero_iff.1 (by simpa[leftOf]using h0)
    rw[this];rfl
   .match i,hi with
    |0,hi=>cases hi;exact⟨_,rfl,.val _ rfl⟩
  .obtain⟨i,hi⟩:=Un he;have hi:(cH.filter fun e=>!seen.contains e.born).toList[i]? =some e:=hi
   have Xv:left[i]? =some (e.key,e.val):=by rw[<-h6,NO,hi];rfl
   have ix:=h8 _ (.inl (NQ Xv));have hK:=nO i e.key e.val _ Xv rfl;rw[bg]at hK;have YW:(ρ.aP (.ap id)).b≠mb:=fun hh=>(hM.a7 _ cP).2 (hh▸h3)
   have hh:w1.heap=w.heap/\w1.os=w.os/\w1.tape=w.tape/\w1.output=w.output:=by rcases Rc with rfl|rfl<;>exact⟨rfl,rfl,rfl,rfl⟩
   have Rd:(ρ.aP (.ap id)).b<w.heap.size:=(hM.a7 _ cP).1;have D3:jw w (Go.ChangeMaps.setBlock w1 (ρ.aP (.ap id)).b (.mapIter (some mb) clock (seen.push e.born) clock)) (ρ.aP (.ap id)).b:=
    ⟨fun b eG=>by show(w1.heap.setIfInBounds _ _)[b]? =_;rw[hh.1,abo (Ne.symm eG)],by show(w1.heap.setIfInBounds _ _).size=_;rw[Array.size_setIfInBounds,hh.1],hh.2.1,hh.2.2.1,hh.2.2.2⟩
   obtain⟨kJ,hX⟩:=hM.Ol (Bt:= .it [(e.key,e.val)] (left.eraseIdx i)) eO cP D3 (fun g=>⟨mb,seen.push e.born,clock,cH,by
     show(w1.heap.setIfInBounds _ _)[_]? =_;rw[hh.1,abc Rd],h2,h3,(D3.heap mb (Ne.symm YW)).trans h4,h5,by
     rw[Fw h5 hi,<-h6];exact Go.ChangeMaps.map_eraseIdx _ _ _,fun p hp=>⟨e,seen,by
      have:e∈(cH.filter fun e=>!seen.contains e.born).toList:=NQ hi
      simp at this⊢;exact this.1,rfl,(abg.1 hp).symm⟩,fun p hp=>by
     rcases hp with hp|hp
     .exact h8 p (.inl (List.mem_of_mem_eraseIdx hp))
     .simp at hp;subst hp;exact ix⟩) (by
     rintro i' j' esz e ⟨YU,rows,HP,mL,_,_⟩;rw[Pr (by rw[<-hM.n];exact aE)]at mL
     cases mL)
   refine⟨_,.tuple #[.bool true,e.key,e.val],_,_,_,ρ,by rw[Sem.run_bind,dq];rfl,.inl rfl,hK,kJ,⟨[.bool true,e.key,e.val],rfl,rfl,fun i r hi=>?_⟩,hX⟩
   match i,hi with
   |0,hi=>cases hi;exact⟨_,rfl,.val _ rfl⟩
   |1,hi=>cases hi;exact⟨_,rfl,.val _ ix.1⟩
   |2,hi=>cases hi;exact⟨_,rfl,.val _ ix.2⟩
 .exact h.elim
theorem Fy(hM:aA ρ m w)(hE:be ρ w aV a.tmps){x:Operand}{x':X}(hx:bh x=some x')(h:step P (.TJ x') aV m K):di P (do pure (Next.value (<-Instr.entry (a.eval x)))) ρ m w K:=by
 have yK:=aN hE hx;simp only[step]at h;generalize a.eval x=xv at yK⊢;split at h
 .rename_i id heq;rw[heq]at yK;obtain⟨bk,eO,h⟩:=bc.1 h;rw[aU]at eO;cases bk<;>try simp only at h
  rename_i cur left;split at h
  .rename_i p tl Xw pX;injection pX with ha hb
   subst ha hb;obtain⟨aE,rfl⟩:=yK;obtain⟨mb,seen,clock,cH,h1,h2,h3,h4,h5,h6,h7,h8⟩:=hM.bk id _ eO;obtain⟨e,Hx,he,rfl,hp⟩:=h7 p aI;have ix:=h8 p (.inr aI);subst hp;have hp:(Value.pointer (some ⟨(ρ.aP (.ap id)).b,(ρ.aP (.ap id)).au+0,none⟩))= .pointer (some ⟨(ρ.aP (.ap id)).b,0,none⟩):=by rw[h2]
   rw[hp];have dq:=run_entry_at (P:=P) w (ρ.aP (.ap id)).b mb clock Hx cH clock e h1 h4 he h5.2;refine di.pure hM (v:= .tuple #[e.key,e.val]) (by rw[Sem.run_bind,dq];rfl) h ⟨[e.key,e.val],rfl,rfl,fun i r hi=>?_⟩
   match i,hi with
   |0,hi=>cases hi;exact⟨_,rfl,.val _ ix.1⟩
   |1,hi=>cases hi;exact⟨_,rfl,.val _ ix.2⟩
  .exact h.elim
 .exact h.elim
end
end Go.AM
