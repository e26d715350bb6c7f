/- Part 7 of 41: what the law stands on. -/
import Derived.Test.YthagjdhjmamakaaGreatDoorT04
import Derived.Test.YthagjdhjmamakaaGreatDoorT05
import Derived.Laws.IdiomStrings
import Derived.Laws.MakeOwn
import Derived.MapKept
import Derived.Maps.RangeRun
set_option linter.unusedVariables false
set_option linter.unusedSimpArgs false
set_option linter.unnecessarySimpa false
set_option maxRecDepth 100000
set_option maxHeartbeats 64000000
namespace Go.AM
open Go.MapKept
section
variable {P:Program} {ρ:bH} {m:Mem} {w:World} {aU:List CV} {a:Act} {K:CV->Mem->Prop}
theorem wW:∀{E:List (List CC)}{xs:List Int},ou E=some xs->E=xs.map fun n=>[.aa (.val (.int .u8 n))]
 | [],xs,h=>by simp[ou]at h;subst h;rfl
 |cs::r,xs,h=>by
  unfold ou at h;split at h
  .rename_i heq;cases heq
  .rename_i n r' heq;cases heq;split at h
   .rename_i l hl;cases h;rw[wW hl];rfl
   .cases h
  .cases h
theorem GK(hM:aC ρ m w)(hE:be ρ w aU a.tmps){s d e:TypeId}{x:Operand}{x':X}(hs:P.underlying s=some (.slice e))(he:P.underlying e=some (.int .u8))(hd:P.underlying d=some .string)(hx:bh x=some x')(h:step P (.Mf x') aU m K):dl P (do pure (Next.value (<-convert s d (a.eval x)))) ρ m w K:=by
 have bY:=aN hE hx;simp only[step]at h;obtain⟨E,wg,h⟩:=bc.1 h;obtain⟨xs,V3,hK⟩:=bc.1 h;obtain⟨ad,cap,vs,hv,h1,h2,F⟩:=l5 hM wg bY;have YY:=wW V3;have Ce:∀i,i<xs.length->vs[i]? =some (.int .u8 (xs.getD i 0)):=by
  intro i hi;have hg:E[i]? =some [.aa (.val (.int .u8 xs[i]))]:=by rw[YY,O6,tq hi];rfl
  obtain⟨u,hu,b9⟩:=F.j7 i _ 0 _ hg rfl;cases b9 with
  |val v hp=>
   rw[show i=i*1+0 by omega,hu]
   simp[List.getD,tq hi]
 have hlen:E.length=xs.length:=by rw[YY];simp
 refine dl.pure hM (v:= .string (strOfNums xs)) ?_ hK (ce rfl);rw[hv,Sem.run_bind];rcases aav E.length with h0|h0
 .have SC:xs=[]:=XJ om;subst SC;rw[h0];cases ad with
  |none=>rw[run_convert_bytes_nil (P:=P) w s e hs he 0 cap d hd];rfl
  |some ad=>
   obtain⟨b,off,sp⟩:=ad;have:(convert s d (.slice (some ⟨b,off,sp⟩) 0 cap)).run P w= .ok (.string (strOfNums [])) w:=by
    rw[run_convert_bytes_string w s d e _ 0 cap hs he hd,run_bytesToString w _ 0 cap [] (by simp[loadCells,loadCellsFrom])]
    rfl
   rw[this];rfl
 .obtain⟨b,off,rfl,hc⟩:=F.PJ h0;rw[run_convert_bytes_arg (P:=P) w s e hs he b off E.length cap xs hlen.symm (fun i hi=>hc i _ (Ce i om)) d hd]
  rfl
theorem pE(hM:aC ρ m w){esz cap:Nat}{elems:List (List CC)}{cells:Array Value}{w':World}(On:d5 w w')(bU:lq (esz=1) w' w.heap.size cells)(dj:cap*esz<=cells.size)(hlen:elems.length<=cap)(bl:cap<=maxLen)(pg:∀cs,cs∈elems->cs.length=esz)(hd:∀(i:Nat)cs(j:Nat)c,elems[i]? =some cs->cs[j]? =some c->∃u,cells[i*esz+j]? =some u/\br ρ w .none c u):
  ∃ρ',aC ρ' (m++ [.row esz elems]) w'/\Ext ρ m w ρ' (m++ [.row esz elems]) w'/\
   bW ρ' w' (.rv (.one (.row m.length esz 0 none))) (.slice (some ⟨w.heap.size,0,none⟩) elems.length cap):=by
 have aF:w.heap.size<w'.heap.size:=bU.lt;let l:vU:=⟨w.heap.size,0,elems.length,cap⟩;have hn:=hM.n;have cy:(ρ.push l).aO (.ap m.length)=l:=by rw[<-hn];exact ρ.fZ l
 have g:ij ρ w (ρ.push l) w':=⟨by simp[bH.push],fun k hk=>ρ.ez l hk,fun b hb=>hb,fun b hb=>On.heap b (hM.S b hb)⟩
 have hb:dZ (ρ.push l) w' m.length (.row esz elems):=by
  refine⟨by rw[cy],by rw[cy];exact hlen,by rw[cy];exact bl,pg,fun _=>⟨cells,by rw[cy];exact bU,by rw[cy];simpa[l]using dj,fun i cs j c hi hj=>?_⟩⟩
  obtain⟨u,hu,b9⟩:=hd i cs j c hi hj;exact⟨u,by rw[cy];simpa[l]using hu,(b9.cF g aK).ub _⟩
 obtain⟨h1,h2⟩:=hM.push (l:=l) On (QN _) aF hb (fun i cs j c hi hj=>by obtain⟨u,hu,b9⟩:=hd i cs j c hi hj;exact b9.x8)
 refine⟨_,h1,h2,by simp[bH.push,hn],?_⟩
 rw[cy];refine⟨aK,aK,hlen,bl,_,rfl,fun _=>?_⟩
 simp[l]
theorem GL(hM:aC ρ m w)(hE:be ρ w aU a.tmps){s d e:TypeId}{x:Operand}{x':X}(hs:P.underlying s=some .string)(hd:P.underlying d=some (.slice e))(he:P.underlying e=some (.int .u8))(hx:bh x=some x')(h:step P (.Rw x') aU m K):dl P (do pure (Next.value (<-convert s d (a.eval x)))) ρ m w K:=by
 have bY:=aN hE hx;simp only[step]at h;generalize a.eval x=v at bY⊢;generalize x'.ev aU=c at bY h;split at h
 .rename_i str;obtain⟨rfl,hp⟩:=bJ bY;obtain⟨dj,hK⟩:=h;rw[gI,cg]at hK;have ef:=grownCap_ge w str.size 0 e;have hle:grownCap w str.size 0 e<=maxLen:=grownCap_le_maxLen w _ 0 e (by unfold maxLen;omega)
  have fb:(bytesRow str (grownCap w str.size 0 e)).size=grownCap w str.size 0 e:=by simp only[bytesRow,Array.size_append,Array.size_map,Array.size_replicate];have:str.data.size=str.size:=rfl;omega
  have hlen:(lX str).length=str.size:=by simp[lX]
  obtain⟨ρ',g1,g2,g3⟩:=pE hM (esz:=1) (cap:=grownCap w str.size 0 e) (elems:=lX str) (cells:=bytesRow str (grownCap w str.size 0 e))
   (w':=w.drew.alloc (.cells (bytesRow str (grownCap w str.size 0 e)) e ((bytesRow str (grownCap w str.size 0 e)).size,(bytesRow str (grownCap w str.size 0 e)).size+1)))
   ((d5.drew w).trans (d5.alloc w.drew _)) ⟨e,_,heap_alloc_new w.drew _,aK,(fun i hi=>by simp;omega),.inl rfl⟩ (by rw[fb];omega) (by rw[hlen];exact ef) hle
   (fun cs fb=>by simp only[lX,aae]at fb;obtain⟨_,_,rfl⟩:=fb;rfl)
   (fun i cs j c hi hj=>by
    simp only[lX,O6]at hi;obtain⟨b,hb,rfl⟩:=Z2.1 hi;cases j with
    |zero=>
     simp at hj;subst hj;refine⟨.int .u8 b.toNat,?_,.val _ rfl⟩;have qY:str.data[i]? =some b:=by simpa using hb
     have aF:=(aac.1 qY).1;simp only[bytesRow,Nat.mul_one,abL];rw[abm (by simpa using aF),acd,qY]
     rfl
    |succ j=>simp at hj)
  rw[hlen]at g3;exact⟨_,_,_,_,_,ρ',by rw[Sem.run_bind,run_bytes_of_string w s d e str hs hd he];rfl,.inl rfl,hK,g1,g3,g2⟩
 .exact h.elim
theorem wh(hM:aC ρ m w)(hE:be ρ w aU a.tmps){t e:TypeId}{i:TypeInfo}{z:List CC}{x y:Operand}{x' y':X}(ht:P.underlying t=some (.slice e))(hi:P.info? e=some i)(hz:dE P e=some z)(dj:i.size=z.length)(de:0<z.length)(hb:0<i.bytes)(hx:bh x=some x')(hy:bh y=some y')(h:step P (.nR i.size i.bytes z x' y') aU m K):dl P (do pure (Next.value (<-Instr.makeSlice t (a.eval x) (a.eval y)))) ρ m w K:=by
 simp only[step]at h;obtain⟨l,hl,h⟩:=bc.1 h;obtain⟨c,hc,h⟩:=bc.1 h;rcases cj.1 h with⟨qI,h⟩|⟨_,h⟩
 case inr=>exact h.elim
 have qI:l=c:=XM qI;subst qI;obtain⟨jg,hK⟩:=h;rw[gI,cg]at hK;have nat:∀{c:CV}{v:Value}{k:Nat},oi c=some k->bW ρ w c v->∃kd,v= .int kd (k:Int):=by
  intro c v k h hd;unfold oi at h;split at h
  .cases h;obtain⟨rfl,_⟩:=bJ hd;exact⟨_,rfl⟩
  .cases h
 obtain⟨kl,wi⟩:=nat hl (aN hE hx);obtain⟨kc,SD⟩:=nat hc (aN hE hy);have Cd:=hz;simp only[dE,Pq,KG]at Cd;obtain⟨i',dV,zv,MG,MC⟩:=Cd;rw[hi]at dV;cases dV;obtain⟨Wi,PN⟩:=eA (ρ:=ρ) (w:=w) MC;have Mi:zv.cells.size=z.length:=by simpa using Wi
 have CM:l<=140737488355328:=aaC (abP _ hb) jg;obtain⟨ρ',g1,g2,g3⟩:=pE hM (esz:=i.size) (cap:=l) (elems:=fI l z) (cells:=madeCells zv.cells (l*i.size)) (w':=w.alloc (.cells (madeCells zv.cells (l*i.size)) e))
  (d5.alloc w _) (lq.new w _ e) (by rw[size_madeCells];exact QN _) (by rw[fk];simp) (by unfold maxLen;omega)
  (fun cs fb=>by rw[fk]at fb;rw[aa4 fb,dj])
  (fun k cs j cc hk hj=>by
   rw[fk]at hk;have i4:=(Hy.1 hk).1;simp at i4;have fb:cs=z:=by have:=O9 hk;exact aa4 this
   subst fb;have zH:=(Hy.1 hj).1;obtain⟨u,hu,b9⟩:=PN j cc hj;refine⟨u,?_,b9⟩;have aF:k*i.size+j<l*i.size:=by have:(k+1)*i.size<=l*i.size:=aam _ i4;rw[aaz,aaU]at this;omega
   simp only[madeCells,acd,Array.getElem?_range];rw[if_pos aF];simp only[XS,XQ];have hm:(k*i.size+j)%zv.cells.size=j:=by rw[Mi,dj,abM,acr,acm zH]
   rw[hm];have ti:zv.cells[j]? =some u:=by simpa using hu
   rw[getElem!_def,ti])
 have SE:(fI l z).length=l:=by rw[fk];simp
 rw[SE]at g3;refine⟨_,_,_,_,_,ρ',?_,.inl rfl,hK,g1,g3,g2⟩;rw[wi,SD,Sem.run_bind,run_make (P:=P) w t e i zv ht hi MG kl kc (l:Int) (l:Int) om (abT _) ?_ om]
 .rfl
 .have:i.bytes*l<=140737488355328:=by rw[abM];exact jg
  have h2:((i.bytes*l:Nat):Int)<=((140737488355328:Nat):Int):=Int.ofNat_le.2 this;rw[Int.natCast_mul]at h2;exact Int.le_trans h2 om
def iW:Ky->TypeDesc
 | .i k=>.int k
 | .s=>.string
 | .b=>.bool
theorem wX{t:TypeId}{kk:Ky}(h:Gv P t=some kk):P.underlying t=some (iW kk):=by
 unfold Gv at h;split at h<;>simp at h<;>subst h<;>assumption
theorem Af{kk:Ky}{v:Value}(h:v8 kk v=true):IsKey (iW kk) v:=by
 cases kk<;>cases v<;>simp_all[v8,IsKey,iW]
theorem wY{kk:Ky}{a b:Value}{t:Bool}(ha:v8 kk a=true)(h:wI a b=some t):Instr.sameNow (iW kk) a b=some t/\(t=true->a=b)/\(t=false->a≠b):=by
 cases kk<;>cases a<;>simp[v8]at ha<;>cases b<;>simp only[wI,reduceCtorEq]at h
 .rename_i k x k' y;split at h
  .rename_i hk;have hk:=of_decide_eq_true hk;subst hk;cases h;refine⟨by simp[Instr.sameNow,iW],fun h=>by simp at h;rw[h],fun h=>by simp at h;simpa using h⟩
  .cases h
 .rename_i x y;cases h;refine⟨by simp[Instr.sameNow,iW],fun h=>by rw[(bytes_beq _ _).1 h],fun h e=>?_⟩
  cases e;rw[(bytes_beq _ _).2 rfl]at h;cases h
 .rename_i x y;cases h;refine⟨by simp[Instr.sameNow,iW],fun h=>by simp at h;rw[h],fun h=>by simp at h;simpa using h⟩
theorem sy{kk:Ky}{kv:Value}(hk:v8 kk kv=true):∀(es:List ME)(cJ:List MapEntry)(n:Nat)(o:Option RV),cJ.length=es.length->
  (∀(i:Nat)e,es[i]? =some e->∃e',cJ[i]? =some e'/\e'.key=e.key/\dy ρ w e.val e'.val)->zT kv es=some o->
  match o with
  |none=>Instr.findNow (iW kk) kv cJ n=some none
  |some r=>∃j v,Instr.findNow (iW kk) kv cJ n=some (some (n+j,v))/\dy ρ w r v
 | [],[],n,o,_,_,h=>by simp[zT]at h;subst h;rfl
 | [],_::_,_,_,h,_,_=>by simp at h
 |_::_,[],_,_,h,_,_=>by simp at h
 |e::es,e'::cJ,n,o,hl,hr,h=>by
  obtain⟨e0,h0,mS,bY⟩:=hr 0 e rfl;simp at h0;subst h0;simp only[zT]at h;cases hq:wI kv e.key with
  |none=>rw[hq]at h;cases h
  |some t=>
   obtain⟨q1,q2,q3⟩:=wY hk hq;rw[<-mS]at q1;cases t with
   |true=>
    rw[hq]at h;cases h;exact⟨0,e'.val,by simp[Instr.findNow,q1],bY⟩
   |false=>
    rw[hq]at h;have ih:=sy hk es cJ (n+1) o (by simpa using hl) (fun i x hx=>by simpa using hr (i+1) x (by simpa using hx)) h
    cases o with
    |none=>simpa[Instr.findNow,q1]using ih
    |some r=>
     obtain⟨j,v,h1,h2⟩:=ih;exact⟨j+1,v,by simp[Instr.findNow,q1,h1];omega,h2⟩
theorem uk{kk:Ky}{kv:Value}(hk:v8 kk kv=true)(r:RV):∀(es:List ME)(cJ:List MapEntry)(n:Nat)(l:List ME),cJ.length=es.length->
  (∀(i:Nat)e,es[i]? =some e->∃e',cJ[i]? =some e'/\e'.key=e.key/\dy ρ w e.val e'.val)->IW kv r es=some l->
  (Instr.findNow (iW kk) kv cJ n=some none/\l=es++ [⟨kv,r⟩])\/∃j e',Instr.findNow (iW kk) kv cJ n=some (some (n+j,e'.val))/\cJ[j]? =some e'/\e'.key=kv/\l=es.set j ⟨kv,r⟩
 | [],[],n,o,_,_,h=>by simp[IW]at h;subst h;exact .inl ⟨rfl,rfl⟩
 | [],_::_,_,_,h,_,_=>by simp at h
 |_::_,[],_,_,h,_,_=>by simp at h
 |e::es,e'::cJ,n,o,hl,hr,h=>by
  obtain⟨e0,h0,mS,bY⟩:=hr 0 e rfl;simp at h0;subst h0;simp only[IW]at h;cases hq:wI kv e.key with
  |none=>rw[hq]at h;cases h
  |some t=>
   obtain⟨q1,q2,q3⟩:=wY hk hq;rw[<-mS]at q1;cases t with
   |true=>
    rw[hq]at h;cases h;exact .inr ⟨0,e',by simp[Instr.findNow,q1],rfl,by rw[mS,q2 rfl],rfl⟩
   |false=>
    rw[hq]at h;simp only at h;split at h
    .rename_i l' GM;cases h;rcases uk hk r es cJ (n+1) l' (by simpa using hl) (fun i x hx=>by simpa using hr (i+1) x (by simpa using hx)) GM with⟨h1,rfl⟩|⟨j,e1,h1,h2,h3,rfl⟩
     .exact .inl ⟨by simpa[Instr.findNow,q1]using h1,rfl⟩
     .exact .inr ⟨j+1,e1,by simp[Instr.findNow,q1,h1];omega,by simpa using h2,h3,rfl⟩
    .cases h
theorem sB(hM:aC ρ m w){t:TypeId}{r:Option Value}(hr:r=none\/∃k n kt et,r=some (.int k n)/\P.underlying t=some (.map kt et))(h:step P .tQ aU m K):dl P (do pure (Next.value (<-Instr.makeMap t r))) ρ m w K:=by
 simp only[step,gI,cg]at h;let l:vU:=⟨w.heap.size,0,0,0⟩;have hn:=hM.n;have cy:(ρ.push l).aO (.ap m.length)=l:=by rw[<-hn];exact ρ.fZ l
 obtain⟨h1,h2⟩:=hM.push (bk:= .mp []) (l:=l) (d5.alloc w (.map #[] 0)) (QN _) (by simp[l]) (by refine⟨#[],0,⟨?_,aK,aK⟩,rfl,aK⟩;rw[cy];exact(heap_alloc w _).1) trivial
 refine⟨.value (.map (some w.heap.size)),.map (some w.heap.size),w.alloc (.map #[] 0),_,_,_,?_,.inl rfl,h,h1,⟨by simp[bH.push,hn],by rw[cy]⟩,h2⟩
 rcases hr with rfl|⟨k,n,kt,et,rfl,ht⟩
 .simp[Instr.makeMap]
 .simp[Instr.makeMap,run_underlying ht,asInt,asIntOf]
theorem GN{t:TypeId}{z:RV}(h:E8 P t=some z):∃v,(zeroValue t).run P w= .ok v w/\dy ρ w z v:=by
 simp only[E8,Pq,KG]at h;obtain⟨i,hi,zv,MG,h⟩:=h;refine⟨zv,by simp[zeroValue,typeInfo,hi,MG],?_⟩
 split at h
 .rename_i cs;simp only[KG]at h;obtain⟨zz,hz,h⟩:=h;cases h;obtain⟨h1,h2⟩:=eA (ρ:=ρ) (w:=w) hz;exact⟨cs.toList,aK,h1,h2⟩
 .simp only[KG]at h;obtain⟨c,hc,h⟩:=h;cases h;exact oM hc
theorem Ag(hM:aC ρ m w){c:CV}{v:Value}{es:List ME}(h:IY m c=some es)(hd:bW ρ w c v):
  (v= .map none/\es=[])\/∃b cJ clock,v= .map (some b)/\w.heap[b]? =some (.map cJ clock)/\Cq ρ w es cJ:=by
 unfold IY at h;split at h
 .rename_i id;split at h
  .rename_i YZ hb;cases h;rw[aT]at hb;obtain⟨aF,rfl⟩:=hd;obtain⟨cJ,clock,h1,h2⟩:=hM.bk id _ hb;exact .inr ⟨_,cJ,clock,rfl,h1.1,h2⟩
  .cases h
 .cases h;obtain⟨rfl,_⟩:=bJ hd;exact .inl ⟨rfl,rfl⟩
 .cases h
theorem CT(hM:aC ρ m w)(hE:be ρ w aU a.tmps){t kt vt:TypeId}{z:RV}{kk:Ky}{x k:Operand}{x' k':X}{b:Bool}(ht:P.underlying t=some (.map kt vt))(hz:E8 P vt=some z)(hk:Gv P kt=some kk)(hx:bh x=some x')(MK:bh k=some k')(h:step P (.Gt z kk x' k' b) aU m K):dl P (do pure (Next.value (<-Instr.lookup t (a.eval x) (a.eval k) b))) ρ m w K:=by
 have zI:=aN hE hx;have CU:=aN hE MK;simp only[step]at h;generalize a.eval x=xv at zI⊢;generalize a.eval k=kv at CU⊢;generalize k'.ev aU=kc at CU h;split at h
 .rename_i Wj;rcases cj.1 h with⟨i5,h⟩|⟨_,h⟩
  case inr=>exact h.elim
  obtain⟨rfl,PQ⟩:=bJ CU (fun e=>by subst e;cases kk<;>simp[v8]at i5)
  obtain⟨es,pg,h⟩:=bc.1 h;obtain⟨o,ho,hK⟩:=bc.1 h;have GO:=wX hk;have mS:=Af i5;obtain⟨zv,Sg,PN⟩:=GN (ρ:=ρ) (w:=w) hz;have j7:∀(v:Value)(r:RV)(t:Bool),dy ρ w r v->(b=true->bW ρ w (.bG [r,.one (.aa (.val (.bool t)))]) (.tuple #[v,.bool t])):=fun v r t hv _=>
   ⟨[v,.bool t],rfl,rfl,fun i r' hi=>by
    match i,hi with
    |0,hi=>cases hi;exact⟨v,rfl,hv⟩
    |1,hi=>cases hi;exact⟨_,rfl,.val _ rfl⟩⟩
  have go:∀(r:Option Nat)(cJ:List MapEntry)(em:Bool),(∀(o':Option (Nat×Value)),Instr.findNow (iW kk) kv cJ 0=some o'->
    (Instr.lookup t (.map r) kv b).run P w=((match o' with|some (_,v)=>(Pure.pure (v,true):Sem (Value×Bool))|none=>(do pure (<-zeroValue vt,false))).run P w).andThen fun p w'=>.ok (if b then .tuple #[p.1,.bool p.2]else p.1) w')->
    (cJ.length=es.length/\∀(i:Nat)e,es[i]? =some e->∃e',cJ[i]? =some e'/\e'.key=e.key/\dy ρ w e.val e'.val)->dl P (do pure (Next.value (<-Instr.lookup t (.map r) kv b))) ρ m w K:=by
   intro r cJ em du pF;have hf:=sy (ρ:=ρ) (w:=w) i5 es cJ 0 o pF.1 pF.2 ho;cases o with
   |none=>
    have h1:=du none hf;simp only[Sem.run_bind,Sg,Result.andThen_ok,Sem.run_pure]at h1;cases b with
    |false=>exact dl.pure hM (v:=zv) (by rw[Sem.run_bind,h1];rfl) hK PN
    |true=>exact dl.pure hM (v:= .tuple #[zv,.bool false]) (by rw[Sem.run_bind,h1];rfl) hK (j7 zv z false PN rfl)
   |some r=>
    obtain⟨j,v,hf,hv⟩:=hf;have h1:=du _ hf;simp only[Sem.run_pure,Result.andThen_ok]at h1;cases b with
    |false=>exact dl.pure hM (v:=v) (by rw[Sem.run_bind,h1];rfl) hK hv
    |true=>exact dl.pure hM (v:= .tuple #[v,.bool true]) (by rw[Sem.run_bind,h1];rfl) hK (j7 v r true hv rfl)
  rcases Ag hM pg zI with⟨rfl,rfl⟩|⟨r,cJ,clock,rfl,hb,hl,hr⟩
  .refine go none [] true (fun o' iU=>?_) ⟨rfl,aK⟩
   cases o' with
   |none=>cases b<;>simp[Instr.lookup,run_underlying ht,run_checkKey GO mS,run_findKey GO iU,Result.andThen,Sg]
   |some p=>cases b<;>simp[Instr.lookup,run_underlying ht,run_checkKey GO mS,run_findKey GO iU,Result.andThen]
  .refine go (some r) cJ.toList cJ.isEmpty (fun o' iU=>?_) ⟨by simpa using hl,fun i e he=>by
     obtain⟨e',h1,h2⟩:=hr i e he;exact⟨e',by simpa using h1,h2⟩⟩
   cases o' with
   |none=>cases b<;>simp[Instr.lookup,run_underlying ht,Go.MapKept.run_getObj_map hb,run_checkKey GO mS,run_findKey GO iU,Result.andThen,Sg]
   |some p=>cases b<;>simp[Instr.lookup,run_underlying ht,Go.MapKept.run_getObj_map hb,run_checkKey GO mS,run_findKey GO iU,Result.andThen]
 .exact h.elim
theorem Ji{c:CV}{v:Value}{r:RV}(h:Cr c=some r)(hd:bW ρ w c v):dy ρ w r v:=by
 unfold Cr at h;split at h
 .cases h;exact hd
 .cases h
theorem mD.push{es:Array MapEntry}{clock:Nat}(h:mD es clock){k v:Value}:mD (es.push {key:=k,val:=v,born:=clock}) (clock+1):=by
 refine⟨fun e he=>?_,?_⟩
 .simp only[Array.toList_push,aaF,abg]at he;rcases he with he|rfl
  .exact Nat.lt_succ_of_lt (h.1 e he)
  .exact aaZ _
 .rw[Array.toList_push,aax,List.nodup_append];refine⟨h.2,aK,fun a ha b hb=>?_⟩
  obtain⟨e,he,rfl⟩:=aae.1 ha;simp at hb;subst hb;exact Nat.ne_of_lt (h.1 e he)
theorem mD.mod{es:Array MapEntry}{clock:Nat}(h:mD es clock){j:Nat}{k v:Value}:mD (es.modify j fun e=>{e with key:=k,val:=v}) clock:=by
 have e1:(es.modify j fun e=>{e with key:=k,val:=v}).toList.map (·.born)=es.toList.map (·.born):=by
  apply aaI;intro i;rw[O6,O6,aa3,aa3,aaJ];split
  .cases es[i]? <;>rfl
  .rfl
 refine⟨fun e he=>?_,by rw[e1];exact h.2⟩
 have:e.born∈es.toList.map (·.born):=by rw[<-e1];exact aae.2 ⟨e,he,rfl⟩
 obtain⟨x,hx,hb⟩:=aae.1 this;rw[<-hb];exact h.1 x hx
theorem ul(hM:aC ρ m w)(hE:be ρ w aU a.tmps){t kt vt:TypeId}{kk:Ky}{x k v:Operand}{x' k' v':X}(ht:P.underlying t=some (.map kt vt))(hk:Gv P kt=some kk)(hx:bh x=some x')(MK:bh k=some k')(hvx:bh v=some v')(h:step P (.x4 kk x' k' v') aU m K):dl P (do Instr.mapUpdate t (a.eval x) (a.eval k) (a.eval v);pure Next.skip) ρ m w K:=by
 have zI:=aN hE hx;have CU:=aN hE MK;have vW:=aN hE hvx;simp only[step]at h;generalize a.eval x=xv at zI⊢;generalize a.eval k=kv at CU⊢;generalize a.eval v=vv at vW⊢;generalize x'.ev aU=xc at zI h;split at h
 .rename_i id;generalize k'.ev aU=kc at CU h;split at h
  .rename_i Wj;rcases cj.1 h with⟨i5,h⟩|⟨_,h⟩
   case inr=>exact h.elim
   obtain⟨rfl,PQ⟩:=bJ CU (fun e=>by subst e;cases kk<;>simp[v8]at i5)
   obtain⟨bk,eT,h⟩:=bc.1 h;rw[aT]at eT;cases bk<;>simp only at h
   rename_i es;obtain⟨r,hr,h⟩:=bc.1 h;obtain⟨l,hl,hK⟩:=bc.1 h;rw[bg]at hK;have GO:=wX hk;have mS:=Af i5;have RC:=Ji hr vW;obtain⟨aF,rfl⟩:=zI;obtain⟨cJ,clock,⟨hb,Vj⟩,dj,pF⟩:=hM.bk id _ eT;have Fl:∀o,jH w {w with heap:=w.heap.setIfInBounds (ρ.aO (.ap id)).b o} (ρ.aO (.ap id)).b:=fun o=>
    ⟨fun b eL=>(heap_set (o':=o) hb).2 b eL,aK,rfl,rfl,rfl⟩
   have cQ:Live ρ m (.ap id):=⟨_,eT,aK,by rintro⟨_,_,e⟩;cases e⟩
   have hU:∀(PR:Array MapEntry)(q8:Nat),mD PR q8->(Instr.mapUpdate t (.map (some (ρ.aO (.ap id)).b)) kv vv).run P w= .ok () {w with heap:=w.heap.setIfInBounds (ρ.aO (.ap id)).b (.map PR q8)}->
     (ij ρ w ρ {w with heap:=w.heap.setIfInBounds (ρ.aO (.ap id)).b (.map PR q8)}->Cq ρ {w with heap:=w.heap.setIfInBounds (ρ.aO (.ap id)).b (.map PR q8)} l PR)->dl P (do Instr.mapUpdate t (.map (some (ρ.aO (.ap id)).b)) kv vv;pure Next.skip) ρ m w K:=by
    intro PR q8 Wk du hmr;obtain⟨kY,hX⟩:=hM.PF (Cy:= .mp l) eT cQ (Fl _) (fun g=>⟨PR,q8,⟨(heap_set hb).1,Wk⟩,hmr g⟩) (by
     rintro i' j' esz e ⟨es3,rows,I8,nf,_,_⟩;rw[QO (by rw[<-hM.n];exact aF)]at nf
     cases nf)
    refine⟨.skip,Go.undef,_,.undef,_,ρ,?_,.inr ⟨rfl,rfl⟩,hK,kY,rfl,hX⟩;rw[Sem.run_bind,du];rfl
   rcases uk (ρ:=ρ) (w:=w) i5 r es cJ.toList 0 l (by simpa using dj) (fun i e he=>by
     obtain⟨e',h1,h2⟩:=pF i e he;exact⟨e',by simpa using h1,h2⟩) hl with⟨hf,rfl⟩|⟨j,e',hf,hj,Mj,rfl⟩
   .refine hU (cJ.push {key:=kv,val:=vv,born:=clock}) (clock+1) (mD.push Vj) ?_ fun g=>⟨by simp[dj],fun i e he=>?_⟩
    .simp[Instr.mapUpdate,run_underlying ht,Go.MapKept.run_getObj_map hb,run_checkKey GO mS,run_findKey GO hf,run_setObj_map _ hb,Result.andThen]
    .rcases XN i es.length with h1|h1
     .rw[VO h1]at he;obtain⟨e',h2,h3,h4⟩:=pF i e he;exact⟨e',by rw[Array.getElem?_push,if_neg om];exact h2,h3,h4.cF g⟩
     .have hi:=(Hy.1 he).1;simp at hi;have ko:i=es.length:=om;subst ko;simp at he;subst he;exact⟨_,by rw[Array.getElem?_push,if_pos dj.symm],rfl,RC.cF g⟩
   .have vV:cJ[j]? =some e':=by simpa using hj
    have dP:=(aac.1 vV).1;refine hU (cJ.modify j fun e=>{e with key:=kv,val:=vv}) clock (mD.mod Vj) ?_ fun g=>⟨by simp[dj],fun i e he=>?_⟩
    .rw[aak]at hf;simp[Instr.mapUpdate,run_underlying ht,Go.MapKept.run_getObj_map hb,run_checkKey GO mS,run_findKey GO hf,run_setObj_map _ hb,Result.andThen,vV,Mj,run_keyThatStays mS]
    .rw[aaq]at he;by_cases pG:j=i
     .subst pG;rw[if_pos rfl,if_pos om]at he;cases he;exact⟨{e' with key:=kv,val:=vv},by rw[aaJ,if_pos rfl,vV];rfl,rfl,RC.cF g⟩
     .rw[if_neg pG]at he;obtain⟨e2,h2,h3,h4⟩:=pF i e he;exact⟨e2,by rw[aaJ,if_neg pG];exact h2,h3,h4.cF g⟩
  .exact h.elim
 .exact h.elim
theorem aC.still(hM:aC ρ m w){id:Nat}{es:List ME}(hb:m[id]? =some (.mp es)):aC {ρ with S:=fun b=>ρ.S b\/b=(ρ.aO (.ap id)).b} (m.set id .aZ) w/\Ext ρ m w {ρ with S:=fun b=>ρ.S b\/b=(ρ.aO (.ap id)).b} (m.set id .aZ) w:=by
 have aF:id<m.length:=(Hy.1 hb).1;have cQ:Live ρ m (.ap id):=⟨_,hb,aK,by rintro⟨_,_,e⟩;cases e⟩
 have g:ij ρ w {ρ with S:=fun b=>ρ.S b\/b=(ρ.aO (.ap id)).b} w:=⟨QN _,fun _ _=>rfl,fun _ h=>.inl h,fun b hb=>rfl⟩
 have get:∀{k:Nat}{b:Bk},(m.set id .aZ)[k]? =some b->(k≠id/\m[k]? =some b)\/(k=id/\b= .aZ):=by
  intro k b hb;by_cases hk:k=id
  .subst hk;rw[QO aF]at hb;exact .inr ⟨rfl,by simpa using hb.symm⟩
  .rw[XK (Ne.symm hk)]at hb;exact .inl ⟨hk,hb⟩
 have gJ:∀{k i j esz e},fp (m.set id .aZ) k i j esz e->fp m k i j esz e:=by
  intro k i j esz e ho;obtain⟨es,rows,cs,hb,hi,hj⟩:=ho;rcases get hb with⟨_,hb⟩|⟨_,hb⟩
  .exact⟨es,rows,cs,hb,hi,hj⟩
  .cases hb
 have cX:∀k,Live {ρ with S:=fun b=>ρ.S b\/b=(ρ.aO (.ap id)).b} (m.set id .aZ) k->Live ρ m k/\k≠.ap id:=by
  intro k hk;cases k with
  |ap k=>
   obtain⟨b,hb,hn,bl⟩:=hk;rcases get hb with⟨eL,hb⟩|⟨_,rfl⟩
   .exact⟨⟨b,hb,hn,bl⟩,fun e=>by cases e;exact eL rfl⟩
   .exact absurd rfl hn
  |sub k i j=>
   obtain⟨⟨esz,e,ho⟩,bl⟩:=hk;exact⟨⟨⟨esz,e,gJ ho⟩,bl⟩,fun e=>by cases e⟩
 refine⟨⟨by simp[hM.n],?_,?_,fun k k' hk gC=>hM.inj k k' (cX k hk).1 (cX k' gC).1,?_,?_⟩,
  ⟨QN _,fun _ _=>rfl,fun _ h=>.inl h,?_,fun k hk=>.inr ⟨k,(cX k hk).1,rfl⟩,fun _ _ _=>rfl,QN _,rfl,rfl,rfl⟩⟩
 .rintro b (h|rfl)
  .exact hM.S b h
  .exact(hM.a8 _ cQ).1
 .intro k hk;obtain⟨h1,h2⟩:=cX k hk;refine⟨(hM.a8 k h1).1,?_⟩;rintro(h|h)
  .exact(hM.a8 k h1).2 h
  .exact h2 (hM.inj k _ h1 cQ h)
 .intro k b hb;rcases get hb with⟨_,hb⟩|⟨_,rfl⟩
  .exact(hM.bk k b hb).cF g (hM.fX hb) fun _ _=>rfl
  .trivial
 .intro k i j esz e ho bl;exact(hM.gp k i j esz e (gJ ho) bl).cF g rfl
 .rintro b (h|rfl)
  .exact .inl h
  .exact .inr (.inr ⟨_,cQ,rfl⟩)
theorem pH:∀{es:List ME}{l:List (Value×Value)},pq es=some l->∀(cJ:List MapEntry),cJ.length=es.length->(∀(i:Nat)e,es[i]? =some e->∃e',cJ[i]? =some e'/\e'.key=e.key/\dy ρ w e.val e'.val)->
  cJ.map (fun e=>(e.key,e.val))=l/\∀p,p∈l->cI p.1=true/\cI p.2=true
 | [],l,h,cJ,hl,hr=>by
  simp[pq]at h;subst h;have:cJ=[]:=List.length_eq_zero_iff.1 (by simpa using hl)
  subst this;simp
 |e::r,l,h,[],hl,hr=>by simp at hl
 |e::r,l,h,e'::r',hl,hr=>by
  obtain⟨k,v⟩:=e;unfold pq at h;split at h
  .rename_i heq;cases heq
  .rename_i k1 v1 r1 heq;cases heq;split at h
   .rename_i hp;rw[T6]at hp;obtain⟨l1,Ac,rfl⟩:=Z2.1 h;obtain⟨a1,a2⟩:=pH Ac r' (by simpa using hl) (fun i e he=>by simpa using hr (i+1) e (by simpa using he))
    obtain⟨e0,h0,h1,h2⟩:=hr 0 _ rfl;simp only[abt,XQ]at h0;subst h0;have h3:e'.val=v1:=(bJ (ρ:=ρ) (w:=w) h2 (fun e=>by subst e;simp[cI]at hp)).1
    refine⟨by rw[aay,a1,h1,h3],fun p PS=>?_⟩
    rcases aad.1 PS with rfl|PS
    .exact hp
    .exact a2 p PS
   .cases h
  .cases h
theorem GP(hM:aC ρ m w)(hE:be ρ w aU a.tmps){t kt vt:TypeId}{x:Operand}{x':X}(ht:P.underlying t=some (.map kt vt))(hx:bh x=some x')(h:step P (.Vc x') aU m K):dl P (do pure (Next.value (<-Instr.range t (a.eval x)))) ρ m w K:=by
 have zI:=aN hE hx;simp only[step]at h;generalize a.eval x=xv at zI⊢;split at h
 .rename_i id heq;rw[heq]at zI;obtain⟨bk,eT,h⟩:=bc.1 h;rw[aT]at eT;cases bk<;>simp only at h
  rename_i es;obtain⟨l,hl,h⟩:=bc.1 h;rw[gI,cg,bg]at h;obtain⟨aF,rfl⟩:=zI;obtain⟨cJ,clock,⟨hb,Vj⟩,dj,pF⟩:=hM.bk id _ eT;obtain⟨tF,l6⟩:=hM.still eT;have Fm:=pH (ρ:=ρ) (w:=w) hl cJ.toList (by simpa using dj) (fun i e he=>by
   obtain⟨e',h1,h2⟩:=pF i e he;exact⟨e',by simpa using h1,h2⟩)
  let lo:vU:=⟨w.heap.size,0,0,0⟩;have hn:=tF.n;have hmb:=tF.S _ (.inr rfl);obtain⟨h1,h2⟩:=tF.push (bk:= .it [] l) (l:=lo) (d5.alloc w (.mapIter (some (ρ.aO (.ap id)).b) clock #[] clock)) (QN _) (by simp[lo]) (by
   have cy:(bH.push {ρ with S:=fun b=>ρ.S b\/b=(ρ.aO (.ap id)).b} lo).aO (.ap (m.set id .aZ).length)=lo:=by rw[<-hn];exact bH.fZ _ lo
   refine⟨(ρ.aO (.ap id)).b,#[],clock,cJ,?_,?_,.inr rfl,?_,Vj,?_,aK,fun p hp=>Fm.2 p (by simpa using hp)⟩
   .rw[cy];exact(heap_alloc w _).1
   .rw[cy]
   .exact((heap_alloc w _).2 _ hmb).trans hb
   .rw[<-Fm.1];congr 2;exact Array.filter_eq_self.2 aK) trivial
  refine⟨_,.pointer (some ⟨w.heap.size,0,none⟩),w.alloc (.mapIter (some (ρ.aO (.ap id)).b) clock #[] clock),_,_,_,?_,.inl rfl,h,h1,?_,l6.trans h2⟩
  .rw[Sem.run_bind,run_range_map w t kt vt (ρ.aO (.ap id)).b cJ clock ht hb];rfl
  .have cy:(bH.push {ρ with S:=fun b=>ρ.S b\/b=(ρ.aO (.ap id)).b} lo).aO (.ap m.length)=lo:=by
    have:=bH.fZ {ρ with S:=fun b=>ρ.S b\/b=(ρ.aO (.ap id)).b} lo
    rw[<-hM.n];exact this
   refine⟨by show m.length<ρ.n+1;rw[hM.n];omega,?_⟩
   rw[cy]
 .exact h.elim
theorem um:∀{L:List MapEntry}{i:Nat}{e:MapEntry},L[i]? =some e->(L.map (·.born)).Nodup->L.filter (fun x=>!(x.born==e.born))=L.eraseIdx i
 | [],i,e,h,_=>by simp at h
 |x::r,0,e,h,hn=>by
  simp only[abt,XQ]at h;subst h;rw[aay,abh]at hn;rw[acn,if_neg aK,List.eraseIdx_zero,List.tail_cons];refine ab7.2 fun y hy=>?_
  have:y.born≠x.born:=fun he=>hn.1 (he▸aae.2 ⟨y,hy,rfl⟩)
  simpa using this
 |x::r,i+1,e,h,hn=>by
  simp only[aaQ]at h;rw[aay,abh]at hn;have:x.born≠e.born:=fun he=>hn.1 (he▸aae.2 ⟨e,O9 h,rfl⟩)
  rw[acn,if_pos (by simpa using this),List.eraseIdx_cons_succ,um h hn.2]
theorem GQ{cJ:Array MapEntry}{clock:Nat}(hb:mD cJ clock){seen:Array Nat}{i:Nat}{e:MapEntry}(h:(cJ.filter fun e=>!seen.contains e.born).toList[i]? =some e):
  (cJ.filter fun x=>!(seen.push e.born).contains x.born).toList=(cJ.filter fun e=>!seen.contains e.born).toList.eraseIdx i:=by
 have e0:(cJ.filter fun e=>!seen.contains e.born).toList=cJ.toList.filter fun e=>!seen.contains e.born:=aK
 have e1:(cJ.filter fun x=>!(seen.push e.born).contains x.born).toList=cJ.toList.filter fun x=>!(seen.push e.born).contains x.born:=aK
 rw[e0]at h⊢;rw[e1,<-um h ((List.filter_sublist.map _).nodup hb.2),List.filter_filter];congr 1;funext x;by_cases h1:x.born=e.born<;>simp[h1,Array.contains_push,Bool.and_comm]
theorem GR(hM:aC ρ m w)(hE:be ρ w aU a.tmps){ty:TypeId}{x:Operand}{x':X}(hx:bh x=some x')(h:step P (.sb x') aU m K):dl P (do pure (Next.value (<-Instr.next (a.eval x) false ty))) ρ m w K:=by
 have zI:=aN hE hx;simp only[step]at h;generalize a.eval x=xv at zI⊢;split at h
 .rename_i id heq;rw[heq]at zI;obtain⟨bk,eT,h⟩:=bc.1 h;rw[aT]at eT;cases bk<;>simp only at h
  rename_i cur left;obtain⟨SF,oy⟩:=h;obtain⟨aF,rfl⟩:=zI;obtain⟨mb,seen,clock,cJ,h1,h2,h3,h4,h5,h6,h7,h8⟩:=hM.bk id _ eT;have cQ:Live ρ m (.ap id):=⟨_,eT,aK,by rintro⟨_,_,e⟩;cases e⟩
  have hp:(Value.pointer (some ⟨(ρ.aO (.ap id)).b,(ρ.aO (.ap id)).au+0,none⟩))= .pointer (some ⟨(ρ.aO (.ap id)).b,0,none⟩):=by rw[h2]
  rw[hp];rcases run_next_at (P:=P) w ty (ρ.aO (.ap id)).b mb clock clock seen cJ clock h1 h4 h5.1 (QN _)with⟨h0,du⟩|⟨e,he,w1,Jj,du⟩
  .refine dl.pure hM (v:= .tuple #[.bool false]) (by rw[Sem.run_bind,du];rfl) (SF ?_) ⟨[.bool false],rfl,rfl,fun i r hi=>?_⟩
   .rw[<-h6];have:(cJ.filter fun e=>!seen.contains e.born).toList=[]:=List.length_eq_zero_iff.1 (by simpa[leftOf]using h0)
    rw[this];rfl
   .match i,hi with
    |0,hi=>cases hi;exact⟨_,rfl,.val _ rfl⟩
  .obtain⟨i,hi⟩:=Xz he;have hi:(cJ.filter fun e=>!seen.contains e.born).toList[i]? =some e:=hi
   have Y0:left[i]? =some (e.key,e.val):=by rw[<-h6,O6,hi];rfl
   have iI:=h8 _ (.inl (O9 Y0));have hK:=oy i e.key e.val _ Y0 rfl;rw[bg]at hK;have hbe:(ρ.aO (.ap id)).b≠mb:=fun hh=>(hM.a8 _ cQ).2 (hh▸h3)
   have hh:w1.heap=w.heap/\w1.os=w.os/\w1.tape=w.tape/\w1.output=w.output:=by rcases Jj with rfl|rfl<;>exact⟨rfl,rfl,rfl,rfl⟩
   have SG:(ρ.aO (.ap id)).b<w.heap.size:=(hM.a8 _ cQ).1;have Fl:jH w (Go.ChangeMaps.setBlock w1 (ρ.aO (.ap id)).b (.mapIter (some mb) clock (seen.push e.born) clock)) (ρ.aO (.ap id)).b:=
    ⟨fun b eL=>by show(w1.heap.setIfInBounds _ _)[b]? =_;rw[hh.1,abr (Ne.symm eL)],by show(w1.heap.setIfInBounds _ _).size=_;rw[Array.size_setIfInBounds,hh.1],hh.2.1,hh.2.2.1,hh.2.2.2⟩
   obtain⟨kY,hX⟩:=hM.PF (Cy:= .it [(e.key,e.val)] (left.eraseIdx i)) eT cQ Fl (fun g=>⟨mb,seen.push e.born,clock,cJ,by
     show(w1.heap.setIfInBounds _ _)[_]? =_;rw[hh.1,abb SG],h2,h3,(Fl.heap mb (Ne.symm hbe)).trans h4,h5,by
     rw[GQ h5 hi,<-h6];exact Go.ChangeMaps.map_eraseIdx _ _ _,fun p hp=>⟨e,seen,by
      have:e∈(cJ.filter fun e=>!seen.contains e.born).toList:=O9 hi
      simp at this⊢;exact this.1,rfl,(abg.1 hp).symm⟩,fun p hp=>by
     rcases hp with hp|hp
     .exact h8 p (.inl (List.mem_of_mem_eraseIdx hp))
     .simp at hp;subst hp;exact iI⟩) (by
     rintro i' j' esz e ⟨es3,rows,I8,nf,_,_⟩;rw[QO (by rw[<-hM.n];exact aF)]at nf
     cases nf)
   refine⟨_,.tuple #[.bool true,e.key,e.val],_,_,_,ρ,by rw[Sem.run_bind,du];rfl,.inl rfl,hK,kY,⟨[.bool true,e.key,e.val],rfl,rfl,fun i r hi=>?_⟩,hX⟩
   match i,hi with
   |0,hi=>cases hi;exact⟨_,rfl,.val _ rfl⟩
   |1,hi=>cases hi;exact⟨_,rfl,.val _ iI.1⟩
   |2,hi=>cases hi;exact⟨_,rfl,.val _ iI.2⟩
 .exact h.elim
theorem GS(hM:aC ρ m w)(hE:be ρ w aU a.tmps){x:Operand}{x':X}(hx:bh x=some x')(h:step P (.Vd x') aU m K):dl P (do pure (Next.value (<-Instr.entry (a.eval x)))) ρ m w K:=by
 have zI:=aN hE hx;simp only[step]at h;generalize a.eval x=xv at zI⊢;split at h
 .rename_i id heq;rw[heq]at zI;obtain⟨bk,eT,h⟩:=bc.1 h;rw[aT]at eT;cases bk<;>try simp only at h
  rename_i cur left;split at h
  .rename_i p tl Y1 qH;injection qH with ha hb
   subst ha hb;obtain⟨aF,rfl⟩:=zI;obtain⟨mb,seen,clock,cJ,h1,h2,h3,h4,h5,h6,h7,h8⟩:=hM.bk id _ eT;obtain⟨e,IS,he,rfl,hp⟩:=h7 p aK;have iI:=h8 p (.inr aK);subst hp;have hp:(Value.pointer (some ⟨(ρ.aO (.ap id)).b,(ρ.aO (.ap id)).au+0,none⟩))= .pointer (some ⟨(ρ.aO (.ap id)).b,0,none⟩):=by rw[h2]
   rw[hp];have du:=run_entry_at (P:=P) w (ρ.aO (.ap id)).b mb clock IS cJ clock e h1 h4 he h5.2;refine dl.pure hM (v:= .tuple #[e.key,e.val]) (by rw[Sem.run_bind,du];rfl) h ⟨[e.key,e.val],rfl,rfl,fun i r hi=>?_⟩
   match i,hi with
   |0,hi=>cases hi;exact⟨_,rfl,.val _ iI.1⟩
   |1,hi=>cases hi;exact⟨_,rfl,.val _ iI.2⟩
  .exact h.elim
 .exact h.elim
end
end Go.AM
