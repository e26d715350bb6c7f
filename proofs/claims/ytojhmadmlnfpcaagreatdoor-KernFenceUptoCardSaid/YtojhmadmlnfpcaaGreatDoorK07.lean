/- Part 7 of 43: what the law stands on. -/
import Derived.Test.YtojhmadmlnfpcaaGreatDoorK04
import Derived.Test.YtojhmadmlnfpcaaGreatDoorK05
import Derived.Laws.IdiomStrings
import Derived.Laws.MakeOwn
import Derived.MapKept
import Derived.Maps.RangeRun
set_option linter.unusedVariables false
set_option linter.unusedSimpArgs false
set_option linter.unnecessarySimpa false
set_option maxRecDepth 100000
set_option maxHeartbeats 64000000
namespace Go.AM
open Go.MapKept
section
variable {P:Program} {ρ:bL} {m:Mem} {w:World} {aY:List CV} {a:Act} {K:CV->Mem->Prop}
theorem yB:∀{E:List (List CC)}{xs:List Int},tz E=some xs->E=xs.map fun n=>[.aa (.val (.int .u8 n))]
 | [],xs,h=>by simp[tz]at h;subst h;rfl
 |cs::r,xs,h=>by
  unfold tz at h;split at h
  .rename_i heq;cases heq
  .rename_i n r' heq;cases heq;split at h
   .rename_i l hl;cases h;rw[yB hl];rfl
   .cases h
  .cases h
theorem Ih(hM:aH ρ m w)(hE:bj ρ w aY a.tmps){s d e:TypeId}{x:Operand}{x':X}(hs:P.underlying s=some (.slice e))(he:P.underlying e=some (.int .u8))(hd:P.underlying d=some .string)(hx:bo x=some x')(h:step P (.Kv x') aY m K):dO P (do pure (Next.value (<-convert s d (a.eval x)))) ρ m w K:=by
 have cj:=aP hE hx;simp only[step]at h;obtain⟨E,zE,h⟩:=be.1 h;obtain⟨xs,XB,hK⟩:=be.1 h;obtain⟨ad,cap,vs,hv,h1,h2,F⟩:=mV hM zE cj;have hEx:=yB XB;have DC:∀i,i<xs.length->vs[i]? =some (.int .u8 (xs.getD i 0)):=by
  intro i hi;have hg:E[i]? =some [.aa (.val (.int .u8 xs[i]))]:=by rw[hEx,aaf,aab hi];rfl
  obtain⟨u,hu,cn⟩:=F.lg i _ 0 _ hg rfl;cases cn with
  |val v hp=>
   rw[show i=i*1+0 by omega,hu]
   simp[List.getD,aab hi]
 have hlen:E.length=xs.length:=by rw[hEx];simp
 refine dO.pure hM (v:= .string (strOfNums xs)) ?_ hK (cq rfl);rw[hv,Sem.run_bind];rcases aaY E.length with h0|h0
 .have Ui:xs=[]:=aat om;subst Ui;rw[h0];cases ad with
  |none=>rw[run_convert_bytes_nil (P:=P) w s e hs he 0 cap d hd];rfl
  |some ad=>
   obtain⟨b,off,sp⟩:=ad;have:(convert s d (.slice (some ⟨b,off,sp⟩) 0 cap)).run P w= .ok (.string (strOfNums [])) w:=by
    rw[run_convert_bytes_string w s d e _ 0 cap hs he hd,run_bytesToString w _ 0 cap [] (by simp[loadCells,loadCellsFrom])]
    rfl
   rw[this];rfl
 .obtain⟨b,off,rfl,hc⟩:=F.Rz h0;rw[run_convert_bytes_arg (P:=P) w s e hs he b off E.length cap xs hlen.symm (fun i hi=>hc i _ (DC i om)) d hd]
  rfl
theorem qN(hM:aH ρ m w){esz cap:Nat}{elems:List (List CC)}{cells:Array Value}{w':World}(Qm:eG w w')(b9:mf (esz=1) w' w.heap.size cells)(dI:cap*esz<=cells.size)(hlen:elems.length<=cap)(bp:cap<=maxLen)(qn:∀cs,cs∈elems->cs.length=esz)(hd:∀(i:Nat)cs(j:Nat)c,elems[i]? =some cs->cs[j]? =some c->∃u,cells[i*esz+j]? =some u/\bz ρ w .none c u):
  ∃ρ',aH ρ' (m++ [.row esz elems]) w'/\Ext ρ m w ρ' (m++ [.row esz elems]) w'/\
   b8 ρ' w' (.rv (.one (.row m.length esz 0 none))) (.slice (some ⟨w.heap.size,0,none⟩) elems.length cap):=by
 have aC:w.heap.size<w'.heap.size:=b9.lt;let l:xA:=⟨w.heap.size,0,elems.length,cap⟩;have hn:=hM.n;have cE:(ρ.push l).aR (.au m.length)=l:=by rw[<-hn];exact ρ.gD l
 have g:iT ρ w (ρ.push l) w':=⟨by simp[bL.push],fun k hk=>ρ.eV l hk,fun b hb=>hb,fun b hb=>Qm.heap b (hM.S b hb)⟩
 have hb:eF (ρ.push l) w' m.length (.row esz elems):=by
  refine⟨by rw[cE],by rw[cE];exact hlen,by rw[cE];exact bp,qn,fun _=>⟨cells,by rw[cE];exact b9,by rw[cE];simpa[l]using dI,fun i cs j c hi hj=>?_⟩⟩
  obtain⟨u,hu,cn⟩:=hd i cs j c hi hj;exact⟨u,by rw[cE];simpa[l]using hu,(cn.cM g aG).vg _⟩
 obtain⟨h1,h2⟩:=hM.push (l:=l) Qm (aaj _) aC hb (fun i cs j c hi hj=>by obtain⟨u,hu,cn⟩:=hd i cs j c hi hj;exact cn.zx)
 refine⟨_,h1,h2,by simp[bL.push,hn],?_⟩
 rw[cE];refine⟨aG,aG,hlen,bp,_,rfl,fun _=>?_⟩
 simp[l]
theorem Ii(hM:aH ρ m w)(hE:bj ρ w aY a.tmps){s d e:TypeId}{x:Operand}{x':X}(hs:P.underlying s=some .string)(hd:P.underlying d=some (.slice e))(he:P.underlying e=some (.int .u8))(hx:bo x=some x')(h:step P (.TI x') aY m K):dO P (do pure (Next.value (<-convert s d (a.eval x)))) ρ m w K:=by
 have cj:=aP hE hx;simp only[step]at h;generalize a.eval x=v at cj⊢;generalize x'.ev aY=c at cj h;split at h
 .rename_i str;obtain⟨rfl,hp⟩:=bM cj;obtain⟨dI,hK⟩:=h;rw[ip,cr]at hK;have ei:=grownCap_ge w str.size 0 e;have hle:grownCap w str.size 0 e<=maxLen:=grownCap_le_maxLen w _ 0 e (by unfold maxLen;omega)
  have dG:(bytesRow str (grownCap w str.size 0 e)).size=grownCap w str.size 0 e:=by simp only[bytesRow,Array.size_append,Array.size_map,Array.size_replicate];have:str.data.size=str.size:=rfl;omega
  have hlen:(pG str).length=str.size:=by simp[pG]
  obtain⟨ρ',g1,g2,g3⟩:=qN hM (esz:=1) (cap:=grownCap w str.size 0 e) (elems:=pG str) (cells:=bytesRow str (grownCap w str.size 0 e))
   (w':=w.drew.alloc (.cells (bytesRow str (grownCap w str.size 0 e)) e ((bytesRow str (grownCap w str.size 0 e)).size,(bytesRow str (grownCap w str.size 0 e)).size+1)))
   ((eG.drew w).trans (eG.alloc w.drew _)) ⟨e,_,heap_alloc_new w.drew _,aG,(fun i hi=>by simp;omega),.inl rfl⟩ (by rw[dG];omega) (by rw[hlen];exact ei) hle
   (fun cs dG=>by simp only[pG,aay]at dG;obtain⟨_,_,rfl⟩:=dG;rfl)
   (fun i cs j c hi hj=>by
    simp only[pG,aaf]at hi;obtain⟨b,hb,rfl⟩:=aaD.1 hi;cases j with
    |zero=>
     simp at hj;subst hj;refine⟨.int .u8 b.toNat,?_,.val _ rfl⟩;have sb:str.data[i]? =some b:=by simpa using hb
     have aC:=(aaF.1 sb).1;simp only[bytesRow,Nat.mul_one,aca];rw[abK (by simpa using aC),acD,sb]
     rfl
    |succ j=>simp at hj)
  rw[hlen]at g3;exact⟨_,_,_,_,_,ρ',by rw[Sem.run_bind,run_bytes_of_string w s d e str hs hd he];rfl,.inl rfl,hK,g1,g3,g2⟩
 .exact h.elim
theorem xR(hM:aH ρ m w)(hE:bj ρ w aY a.tmps){t e:TypeId}{i:TypeInfo}{z:List CC}{x y:Operand}{x' y':X}(ht:P.underlying t=some (.slice e))(hi:P.info? e=some i)(hz:d8 P e=some z)(dI:i.size=z.length)(dD:0<z.length)(hb:0<i.bytes)(hx:bo x=some x')(hy:bo y=some y')(h:step P (.oI i.size i.bytes z x' y') aY m K):dO P (do pure (Next.value (<-Instr.makeSlice t (a.eval x) (a.eval y)))) ρ m w K:=by
 simp only[step]at h;obtain⟨l,hl,h⟩:=be.1 h;obtain⟨c,hc,h⟩:=be.1 h;rcases ct.1 h with⟨rP,h⟩|⟨_,h⟩
 case inr=>exact h.elim
 have rP:l=c:=aav rP;subst rP;obtain⟨jr,hK⟩:=h;rw[ip,cr]at hK;have nat:∀{c:CV}{v:Value}{k:Nat},pF c=some k->b8 ρ w c v->∃kd,v= .int kd (k:Int):=by
  intro c v k h hd;unfold pF at h;split at h
  .cases h;obtain⟨rfl,_⟩:=bM hd;exact⟨_,rfl⟩
  .cases h
 obtain⟨kl,xS⟩:=nat hl (aP hE hx);obtain⟨kc,Uj⟩:=nat hc (aP hE hy);have DB:=hz;simp only[d8,aah,aae]at DB;obtain⟨i',eC,zv,OA,Ox⟩:=DB;rw[hi]at eC;cases eC;obtain⟨XP,RE⟩:=eX (ρ:=ρ) (w:=w) Ox;have N6:zv.cells.size=z.length:=by simpa using XP
 have Ec:l<=140737488355328:=aa0 (acf _ hb) jr;obtain⟨ρ',g1,g2,g3⟩:=qN hM (esz:=i.size) (cap:=l) (elems:=gg l z) (cells:=madeCells zv.cells (l*i.size)) (w':=w.alloc (.cells (madeCells zv.cells (l*i.size)) e))
  (eG.alloc w _) (mf.new w _ e) (by rw[size_madeCells];exact aaj _) (by rw[fA];simp) (by unfold maxLen;omega)
  (fun cs dG=>by rw[fA]at dG;rw[aby dG,dI])
  (fun k cs j cc hk hj=>by
   rw[fA]at hk;have jM:=(aac.1 hk).1;simp at jM;have dG:cs=z:=by have:=aag hk;exact aby this
   subst dG;have Bh:=(aac.1 hj).1;obtain⟨u,hu,cn⟩:=RE j cc hj;refine⟨u,?_,cn⟩;have aC:k*i.size+j<l*i.size:=by have:(k+1)*i.size<=l*i.size:=aaP _ jM;rw[aa2,abl]at this;omega
   simp only[madeCells,acD,Array.getElem?_range];rw[if_pos aC];simp only[aaC,aaA];have hm:(k*i.size+j)%zv.cells.size=j:=by rw[N6,dI,acb,acS,acO Bh]
   rw[hm];have ul:zv.cells[j]? =some u:=by simpa using hu
   rw[getElem!_def,ul])
 have Uk:(gg l z).length=l:=by rw[fA];simp
 rw[Uk]at g3;refine⟨_,_,_,_,_,ρ',?_,.inl rfl,hK,g1,g3,g2⟩;rw[xS,Uj,Sem.run_bind,run_make (P:=P) w t e i zv ht hi OA kl kc (l:Int) (l:Int) om (ab3 _) ?_ om]
 .rfl
 .have:i.bytes*l<=140737488355328:=by rw[acb];exact jr
  have h2:((i.bytes*l:Nat):Int)<=((140737488355328:Nat):Int):=Int.ofNat_le.2 this;rw[Int.natCast_mul]at h2;exact Int.le_trans h2 om
def jE:Ky->TypeDesc
 | .i k=>.int k
 | .s=>.string
 | .b=>.bool
theorem yC{t:TypeId}{kk:Ky}(h:HZ P t=some kk):P.underlying t=some (jE kk):=by
 unfold HZ at h;split at h<;>simp at h<;>subst h<;>assumption
theorem BM{kk:Ky}{v:Value}(h:xM kk v=true):IsKey (jE kk) v:=by
 cases kk<;>cases v<;>simp_all[xM,IsKey,jE]
theorem yD{kk:Ky}{a b:Value}{t:Bool}(ha:xM kk a=true)(h:qB a b=some t):Instr.sameNow (jE kk) a b=some t/\(t=true->a=b)/\(t=false->a≠b):=by
 cases kk<;>cases a<;>simp[xM]at ha<;>cases b<;>simp only[qB,reduceCtorEq]at h
 .rename_i k x k' y;split at h
  .rename_i hk;have hk:=of_decide_eq_true hk;subst hk;cases h;refine⟨by simp[Instr.sameNow,jE],fun h=>by simp at h;rw[h],fun h=>by simp at h;simpa using h⟩
  .cases h
 .rename_i x y;cases h;refine⟨by simp[Instr.sameNow,jE],fun h=>by rw[(bytes_beq _ _).1 h],fun h e=>?_⟩
  cases e;rw[(bytes_beq _ _).2 rfl]at h;cases h
 .rename_i x y;cases h;refine⟨by simp[Instr.sameNow,jE],fun h=>by simp at h;rw[h],fun h=>by simp at h;simpa using h⟩
theorem tO{kk:Ky}{kv:Value}(hk:xM kk kv=true):∀(es:List ME)(cV:List MapEntry)(n:Nat)(o:Option RV),cV.length=es.length->
  (∀(i:Nat)e,es[i]? =some e->∃e',cV[i]? =some e'/\e'.key=e.key/\dW ρ w e.val e'.val)->qC kv es=some o->
  match o with
  |none=>Instr.findNow (jE kk) kv cV n=some none
  |some r=>∃j v,Instr.findNow (jE kk) kv cV n=some (some (n+j,v))/\dW ρ w r v
 | [],[],n,o,_,_,h=>by simp[qC]at h;subst h;rfl
 | [],_::_,_,_,h,_,_=>by simp at h
 |_::_,[],_,_,h,_,_=>by simp at h
 |e::es,e'::cV,n,o,hl,hr,h=>by
  obtain⟨e0,h0,nI,cj⟩:=hr 0 e rfl;simp at h0;subst h0;simp only[qC]at h;cases hq:qB kv e.key with
  |none=>rw[hq]at h;cases h
  |some t=>
   obtain⟨q1,q2,q3⟩:=yD hk hq;rw[<-nI]at q1;cases t with
   |true=>
    rw[hq]at h;cases h;exact⟨0,e'.val,by simp[Instr.findNow,q1],cj⟩
   |false=>
    rw[hq]at h;have ih:=tO hk es cV (n+1) o (by simpa using hl) (fun i x hx=>by simpa using hr (i+1) x (by simpa using hx)) h
    cases o with
    |none=>simpa[Instr.findNow,q1]using ih
    |some r=>
     obtain⟨j,v,h1,h2⟩:=ih;exact⟨j+1,v,by simp[Instr.findNow,q1,h1];omega,h2⟩
theorem vr{kk:Ky}{kv:Value}(hk:xM kk kv=true)(r:RV):∀(es:List ME)(cV:List MapEntry)(n:Nat)(l:List ME),cV.length=es.length->
  (∀(i:Nat)e,es[i]? =some e->∃e',cV[i]? =some e'/\e'.key=e.key/\dW ρ w e.val e'.val)->DR kv r es=some l->
  (Instr.findNow (jE kk) kv cV n=some none/\l=es++ [⟨kv,r⟩])\/∃j e',Instr.findNow (jE kk) kv cV n=some (some (n+j,e'.val))/\cV[j]? =some e'/\e'.key=kv/\l=es.set j ⟨kv,r⟩
 | [],[],n,o,_,_,h=>by simp[DR]at h;subst h;exact .inl ⟨rfl,rfl⟩
 | [],_::_,_,_,h,_,_=>by simp at h
 |_::_,[],_,_,h,_,_=>by simp at h
 |e::es,e'::cV,n,o,hl,hr,h=>by
  obtain⟨e0,h0,nI,cj⟩:=hr 0 e rfl;simp at h0;subst h0;simp only[DR]at h;cases hq:qB kv e.key with
  |none=>rw[hq]at h;cases h
  |some t=>
   obtain⟨q1,q2,q3⟩:=yD hk hq;rw[<-nI]at q1;cases t with
   |true=>
    rw[hq]at h;cases h;exact .inr ⟨0,e',by simp[Instr.findNow,q1],rfl,by rw[nI,q2 rfl],rfl⟩
   |false=>
    rw[hq]at h;simp only at h;split at h
    .rename_i l' Ei;cases h;rcases vr hk r es cV (n+1) l' (by simpa using hl) (fun i x hx=>by simpa using hr (i+1) x (by simpa using hx)) Ei with⟨h1,rfl⟩|⟨j,e1,h1,h2,h3,rfl⟩
     .exact .inl ⟨by simpa[Instr.findNow,q1]using h1,rfl⟩
     .exact .inr ⟨j+1,e1,by simp[Instr.findNow,q1,h1];omega,by simpa using h2,h3,rfl⟩
    .cases h
theorem tP(hM:aH ρ m w){t:TypeId}{r:Option Value}(hr:r=none\/∃k n kt et,r=some (.int k n)/\P.underlying t=some (.map kt et))(h:step P .qz aY m K):dO P (do pure (Next.value (<-Instr.makeMap t r))) ρ m w K:=by
 simp only[step,ip,cr]at h;let l:xA:=⟨w.heap.size,0,0,0⟩;have hn:=hM.n;have cE:(ρ.push l).aR (.au m.length)=l:=by rw[<-hn];exact ρ.gD l
 obtain⟨h1,h2⟩:=hM.push (bk:= .mp []) (l:=l) (eG.alloc w (.map #[] 0)) (aaj _) (by simp[l]) (by refine⟨#[],0,⟨?_,aG,aG⟩,rfl,aG⟩;rw[cE];exact(heap_alloc w _).1) trivial
 refine⟨.value (.map (some w.heap.size)),.map (some w.heap.size),w.alloc (.map #[] 0),_,_,_,?_,.inl rfl,h,h1,⟨by simp[bL.push,hn],by rw[cE]⟩,h2⟩
 rcases hr with rfl|⟨k,n,kt,et,rfl,ht⟩
 .simp[Instr.makeMap]
 .simp[Instr.makeMap,run_underlying ht,asInt,asIntOf]
theorem Ij{t:TypeId}{z:RV}(h:GF P t=some z):∃v,(zeroValue t).run P w= .ok v w/\dW ρ w z v:=by
 simp only[GF,aah,aae]at h;obtain⟨i,hi,zv,OA,h⟩:=h;refine⟨zv,by simp[zeroValue,typeInfo,hi,OA],?_⟩
 split at h
 .rename_i cs;simp only[aae]at h;obtain⟨zz,hz,h⟩:=h;cases h;obtain⟨h1,h2⟩:=eX (ρ:=ρ) (w:=w) hz;exact⟨cs.toList,aG,h1,h2⟩
 .simp only[aae]at h;obtain⟨c,hc,h⟩:=h;cases h;exact pH hc
theorem BN(hM:aH ρ m w){c:CV}{v:Value}{es:List ME}(h:KB m c=some es)(hd:b8 ρ w c v):
  (v= .map none/\es=[])\/∃b cV clock,v= .map (some b)/\w.heap[b]? =some (.map cV clock)/\DP ρ w es cV:=by
 unfold KB at h;split at h
 .rename_i id;split at h
  .rename_i es0 hb;cases h;rw[aX]at hb;obtain⟨aC,rfl⟩:=hd;obtain⟨cV,clock,h1,h2⟩:=hM.bk id _ hb;exact .inr ⟨_,cV,clock,rfl,h1.1,h2⟩
  .cases h
 .cases h;obtain⟨rfl,_⟩:=bM hd;exact .inl ⟨rfl,rfl⟩
 .cases h
theorem Ej(hM:aH ρ m w)(hE:bj ρ w aY a.tmps){t kt vt:TypeId}{z:RV}{kk:Ky}{x k:Operand}{x' k':X}{b:Bool}(ht:P.underlying t=some (.map kt vt))(hz:GF P vt=some z)(hk:HZ P kt=some kk)(hx:bo x=some x')(OE:bo k=some k')(h:step P (.Bw z kk x' k' b) aY m K):dO P (do pure (Next.value (<-Instr.lookup t (a.eval x) (a.eval k) b))) ρ m w K:=by
 have Bi:=aP hE hx;have Ek:=aP hE OE;simp only[step]at h;generalize a.eval x=xv at Bi⊢;generalize a.eval k=kv at Ek⊢;generalize k'.ev aY=kc at Ek h;split at h
 .rename_i XQ;rcases ct.1 h with⟨jz,h⟩|⟨_,h⟩
  case inr=>exact h.elim
  obtain⟨rfl,RF⟩:=bM Ek (fun e=>by subst e;cases kk<;>simp[xM]at jz)
  obtain⟨es,qn,h⟩:=be.1 h;obtain⟨o,ho,hK⟩:=be.1 h;have El:=yC hk;have nI:=BM jz;obtain⟨zv,TZ,RE⟩:=Ij (ρ:=ρ) (w:=w) hz;have lg:∀(v:Value)(r:RV)(t:Bool),dW ρ w r v->(b=true->b8 ρ w (.bF [r,.one (.aa (.val (.bool t)))]) (.tuple #[v,.bool t])):=fun v r t hv _=>
   ⟨[v,.bool t],rfl,rfl,fun i r' hi=>by
    match i,hi with
    |0,hi=>cases hi;exact⟨v,rfl,hv⟩
    |1,hi=>cases hi;exact⟨_,rfl,.val _ rfl⟩⟩
  have go:∀(r:Option Nat)(cV:List MapEntry)(em:Bool),(∀(o':Option (Nat×Value)),Instr.findNow (jE kk) kv cV 0=some o'->
    (Instr.lookup t (.map r) kv b).run P w=((match o' with|some (_,v)=>(Pure.pure (v,true):Sem (Value×Bool))|none=>(do pure (<-zeroValue vt,false))).run P w).andThen fun p w'=>.ok (if b then .tuple #[p.1,.bool p.2]else p.1) w')->
    (cV.length=es.length/\∀(i:Nat)e,es[i]? =some e->∃e',cV[i]? =some e'/\e'.key=e.key/\dW ρ w e.val e'.val)->dO P (do pure (Next.value (<-Instr.lookup t (.map r) kv b))) ρ m w K:=by
   intro r cV em dV qQ;have hf:=tO (ρ:=ρ) (w:=w) jz es cV 0 o qQ.1 qQ.2 ho;cases o with
   |none=>
    have h1:=dV none hf;simp only[Sem.run_bind,TZ,Result.andThen_ok,Sem.run_pure]at h1;cases b with
    |false=>exact dO.pure hM (v:=zv) (by rw[Sem.run_bind,h1];rfl) hK RE
    |true=>exact dO.pure hM (v:= .tuple #[zv,.bool false]) (by rw[Sem.run_bind,h1];rfl) hK (lg zv z false RE rfl)
   |some r=>
    obtain⟨j,v,hf,hv⟩:=hf;have h1:=dV _ hf;simp only[Sem.run_pure,Result.andThen_ok]at h1;cases b with
    |false=>exact dO.pure hM (v:=v) (by rw[Sem.run_bind,h1];rfl) hK hv
    |true=>exact dO.pure hM (v:= .tuple #[v,.bool true]) (by rw[Sem.run_bind,h1];rfl) hK (lg v r true hv rfl)
  rcases BN hM qn Bi with⟨rfl,rfl⟩|⟨r,cV,clock,rfl,hb,hl,hr⟩
  .refine go none [] true (fun o' ir=>?_) ⟨rfl,aG⟩
   cases o' with
   |none=>cases b<;>simp[Instr.lookup,run_underlying ht,run_checkKey El nI,run_findKey El ir,Result.andThen,TZ]
   |some p=>cases b<;>simp[Instr.lookup,run_underlying ht,run_checkKey El nI,run_findKey El ir,Result.andThen]
  .refine go (some r) cV.toList cV.isEmpty (fun o' ir=>?_) ⟨by simpa using hl,fun i e he=>by
     obtain⟨e',h1,h2⟩:=hr i e he;exact⟨e',by simpa using h1,h2⟩⟩
   cases o' with
   |none=>cases b<;>simp[Instr.lookup,run_underlying ht,Go.MapKept.run_getObj_map hb,run_checkKey El nI,run_findKey El ir,Result.andThen,TZ]
   |some p=>cases b<;>simp[Instr.lookup,run_underlying ht,Go.MapKept.run_getObj_map hb,run_checkKey El nI,run_findKey El ir,Result.andThen]
 .exact h.elim
theorem KZ{c:CV}{v:Value}{r:RV}(h:DQ c=some r)(hd:b8 ρ w c v):dW ρ w r v:=by
 unfold DQ at h;split at h
 .cases h;exact hd
 .cases h
theorem np.push{es:Array MapEntry}{clock:Nat}(h:np es clock){k v:Value}:np (es.push {key:=k,val:=v,born:=clock}) (clock+1):=by
 refine⟨fun e he=>?_,?_⟩
 .simp only[Array.toList_push,abf,abF]at he;rcases he with he|rfl
  .exact Nat.lt_succ_of_lt (h.1 e he)
  .exact abp _
 .rw[Array.toList_push,aaU,List.nodup_append];refine⟨h.2,aG,fun a ha b hb=>?_⟩
  obtain⟨e,he,rfl⟩:=aay.1 ha;simp at hb;subst hb;exact Nat.ne_of_lt (h.1 e he)
theorem np.mod{es:Array MapEntry}{clock:Nat}(h:np es clock){j:Nat}{k v:Value}:np (es.modify j fun e=>{e with key:=k,val:=v}) clock:=by
 have e1:(es.modify j fun e=>{e with key:=k,val:=v}).toList.map (·.born)=es.toList.map (·.born):=by
  apply aa7;intro i;rw[aaf,aaf,abx,abx,aba];split
  .cases es[i]? <;>rfl
  .rfl
 refine⟨fun e he=>?_,by rw[e1];exact h.2⟩
 have:e.born∈es.toList.map (·.born):=by rw[<-e1];exact aay.2 ⟨e,he,rfl⟩
 obtain⟨x,hx,hb⟩:=aay.1 this;rw[<-hb];exact h.1 x hx
theorem vu(hM:aH ρ m w)(hE:bj ρ w aY a.tmps){t kt vt:TypeId}{kk:Ky}{x k v:Operand}{x' k' v':X}(ht:P.underlying t=some (.map kt vt))(hk:HZ P kt=some kk)(hx:bo x=some x')(OE:bo k=some k')(hvx:bo v=some v')(h:step P (.kF kk x' k' v') aY m K):dO P (do Instr.mapUpdate t (a.eval x) (a.eval k) (a.eval v);pure Next.skip) ρ m w K:=by
 have Bi:=aP hE hx;have Ek:=aP hE OE;have uP:=aP hE hvx;simp only[step]at h;generalize a.eval x=xv at Bi⊢;generalize a.eval k=kv at Ek⊢;generalize a.eval v=vv at uP⊢;generalize x'.ev aY=xc at Bi h;split at h
 .rename_i id;generalize k'.ev aY=kc at Ek h;split at h
  .rename_i XQ;rcases ct.1 h with⟨jz,h⟩|⟨_,h⟩
   case inr=>exact h.elim
   obtain⟨rfl,RF⟩:=bM Ek (fun e=>by subst e;cases kk<;>simp[xM]at jz)
   obtain⟨bk,fj,h⟩:=be.1 h;rw[aX]at fj;cases bk<;>simp only at h
   rename_i es;obtain⟨r,hr,h⟩:=be.1 h;obtain⟨l,hl,hK⟩:=be.1 h;rw[bn]at hK;have El:=yC hk;have nI:=BM jz;have Ti:=KZ hr uP;obtain⟨aC,rfl⟩:=Bi;obtain⟨cV,clock,⟨hb,Qs⟩,dI,qQ⟩:=hM.bk id _ fj;have GS:∀o,kJ w {w with heap:=w.heap.setIfInBounds (ρ.aR (.au id)).b o} (ρ.aR (.au id)).b:=fun o=>
    ⟨fun b eW=>(heap_set (o':=o) hb).2 b eW,aG,rfl,rfl,rfl⟩
   have dg:Live ρ m (.au id):=⟨_,fj,aG,by rintro⟨_,_,e⟩;cases e⟩
   have fS:∀(RG:Array MapEntry)(sf:Nat),np RG sf->(Instr.mapUpdate t (.map (some (ρ.aR (.au id)).b)) kv vv).run P w= .ok () {w with heap:=w.heap.setIfInBounds (ρ.aR (.au id)).b (.map RG sf)}->
     (iT ρ w ρ {w with heap:=w.heap.setIfInBounds (ρ.aR (.au id)).b (.map RG sf)}->DP ρ {w with heap:=w.heap.setIfInBounds (ρ.aR (.au id)).b (.map RG sf)} l RG)->dO P (do Instr.mapUpdate t (.map (some (ρ.aR (.au id)).b)) kv vv;pure Next.skip) ρ m w K:=by
    intro RG sf XR dV hmr;obtain⟨lV,hX⟩:=hM.Ru (DZ:= .mp l) fj dg (GS _) (fun g=>⟨RG,sf,⟨(heap_set hb).1,XR⟩,hmr g⟩) (by
     rintro i' j' esz e ⟨es3,rows,KN,jD,_,_⟩;rw[aal (by rw[<-hM.n];exact aC)]at jD
     cases jD)
    refine⟨.skip,Go.undef,_,.undef,_,ρ,?_,.inr ⟨rfl,rfl⟩,hK,lV,rfl,hX⟩;rw[Sem.run_bind,dV];rfl
   rcases vr (ρ:=ρ) (w:=w) jz r es cV.toList 0 l (by simpa using dI) (fun i e he=>by
     obtain⟨e',h1,h2⟩:=qQ i e he;exact⟨e',by simpa using h1,h2⟩) hl with⟨hf,rfl⟩|⟨j,e',hf,hj,N7,rfl⟩
   .refine fS (cV.push {key:=kv,val:=vv,born:=clock}) (clock+1) (np.push Qs) ?_ fun g=>⟨by simp[dI],fun i e he=>?_⟩
    .simp[Instr.mapUpdate,run_underlying ht,Go.MapKept.run_getObj_map hb,run_checkKey El nI,run_findKey El hf,run_setObj_map _ hb,Result.andThen]
    .rcases aaq i es.length with h1|h1
     .rw[aar h1]at he;obtain⟨e',h2,h3,h4⟩:=qQ i e he;exact⟨e',by rw[Array.getElem?_push,if_neg om];exact h2,h3,h4.cM g⟩
     .have hi:=(aac.1 he).1;simp at hi;have lA:i=es.length:=om;subst lA;simp at he;subst he;exact⟨_,by rw[Array.getElem?_push,if_pos dI.symm],rfl,Ti.cM g⟩
   .have xD:cV[j]? =some e':=by simpa using hj
    have dA:=(aaF.1 xD).1;refine fS (cV.modify j fun e=>{e with key:=kv,val:=vv}) clock (np.mod Qs) ?_ fun g=>⟨by simp[dI],fun i e he=>?_⟩
    .rw[aaS]at hf;simp[Instr.mapUpdate,run_underlying ht,Go.MapKept.run_getObj_map hb,run_checkKey El nI,run_findKey El hf,run_setObj_map _ hb,Result.andThen,xD,N7,run_keyThatStays nI]
    .rw[aaQ]at he;by_cases pM:j=i
     .subst pM;rw[if_pos rfl,if_pos om]at he;cases he;exact⟨{e' with key:=kv,val:=vv},by rw[aba,if_pos rfl,xD];rfl,rfl,Ti.cM g⟩
     .rw[if_neg pM]at he;obtain⟨e2,h2,h3,h4⟩:=qQ i e he;exact⟨e2,by rw[aba,if_neg pM];exact h2,h3,h4.cM g⟩
  .exact h.elim
 .exact h.elim
theorem aH.still(hM:aH ρ m w){id:Nat}{es:List ME}(hb:m[id]? =some (.mp es)):aH {ρ with S:=fun b=>ρ.S b\/b=(ρ.aR (.au id)).b} (m.set id .bh) w/\Ext ρ m w {ρ with S:=fun b=>ρ.S b\/b=(ρ.aR (.au id)).b} (m.set id .bh) w:=by
 have aC:id<m.length:=(aac.1 hb).1;have dg:Live ρ m (.au id):=⟨_,hb,aG,by rintro⟨_,_,e⟩;cases e⟩
 have g:iT ρ w {ρ with S:=fun b=>ρ.S b\/b=(ρ.aR (.au id)).b} w:=⟨aaj _,fun _ _=>rfl,fun _ h=>.inl h,fun b hb=>rfl⟩
 have get:∀{k:Nat}{b:Bk},(m.set id .bh)[k]? =some b->(k≠id/\m[k]? =some b)\/(k=id/\b= .bh):=by
  intro k b hb;by_cases hk:k=id
  .subst hk;rw[aal aC]at hb;exact .inr ⟨rfl,by simpa using hb.symm⟩
  .rw[aas (Ne.symm hk)]at hb;exact .inl ⟨hk,hb⟩
 have iq:∀{k i j esz e},fI (m.set id .bh) k i j esz e->fI m k i j esz e:=by
  intro k i j esz e ho;obtain⟨es,rows,cs,hb,hi,hj⟩:=ho;rcases get hb with⟨_,hb⟩|⟨_,hb⟩
  .exact⟨es,rows,cs,hb,hi,hj⟩
  .cases hb
 have du:∀k,Live {ρ with S:=fun b=>ρ.S b\/b=(ρ.aR (.au id)).b} (m.set id .bh) k->Live ρ m k/\k≠.au id:=by
  intro k hk;cases k with
  |au k=>
   obtain⟨b,hb,hn,bp⟩:=hk;rcases get hb with⟨eW,hb⟩|⟨_,rfl⟩
   .exact⟨⟨b,hb,hn,bp⟩,fun e=>by cases e;exact eW rfl⟩
   .exact absurd rfl hn
  |sub k i j=>
   obtain⟨⟨esz,e,ho⟩,bp⟩:=hk;exact⟨⟨⟨esz,e,iq ho⟩,bp⟩,fun e=>by cases e⟩
 refine⟨⟨by simp[hM.n],?_,?_,fun k k' hk ij=>hM.inj k k' (du k hk).1 (du k' ij).1,?_,?_⟩,
  ⟨aaj _,fun _ _=>rfl,fun _ h=>.inl h,?_,fun k hk=>.inr ⟨k,(du k hk).1,rfl⟩,fun _ _ _=>rfl,aaj _,rfl,rfl,rfl⟩⟩
 .rintro b (h|rfl)
  .exact hM.S b h
  .exact(hM.aV _ dg).1
 .intro k hk;obtain⟨h1,h2⟩:=du k hk;refine⟨(hM.aV k h1).1,?_⟩;rintro(h|h)
  .exact(hM.aV k h1).2 h
  .exact h2 (hM.inj k _ h1 dg h)
 .intro k b hb;rcases get hb with⟨_,hb⟩|⟨_,rfl⟩
  .exact(hM.bk k b hb).cM g (hM.gB hb) fun _ _=>rfl
  .trivial
 .intro k i j esz e ho bp;exact(hM.gX k i j esz e (iq ho) bp).cM g rfl
 .rintro b (h|rfl)
  .exact .inl h
  .exact .inr (.inr ⟨_,dg,rfl⟩)
theorem qS:∀{es:List ME}{l:List (Value×Value)},qD es=some l->∀(cV:List MapEntry),cV.length=es.length->(∀(i:Nat)e,es[i]? =some e->∃e',cV[i]? =some e'/\e'.key=e.key/\dW ρ w e.val e'.val)->
  cV.map (fun e=>(e.key,e.val))=l/\∀p,p∈l->cT p.1=true/\cT p.2=true
 | [],l,h,cV,hl,hr=>by
  simp[qD]at h;subst h;have:cV=[]:=List.length_eq_zero_iff.1 (by simpa using hl)
  subst this;simp
 |e::r,l,h,[],hl,hr=>by simp at hl
 |e::r,l,h,e'::r',hl,hr=>by
  obtain⟨k,v⟩:=e;unfold qD at h;split at h
  .rename_i heq;cases heq
  .rename_i k1 v1 r1 heq;cases heq;split at h
   .rename_i hp;rw[aap]at hp;obtain⟨l1,BI,rfl⟩:=aaD.1 h;obtain⟨a1,a2⟩:=qS BI r' (by simpa using hl) (fun i e he=>by simpa using hr (i+1) e (by simpa using he))
    obtain⟨e0,h0,h1,h2⟩:=hr 0 _ rfl;simp only[abR,aaA]at h0;subst h0;have h3:e'.val=v1:=(bM (ρ:=ρ) (w:=w) h2 (fun e=>by subst e;simp[cT]at hp)).1
    refine⟨by rw[aaX,a1,h1,h3],fun p N8=>?_⟩
    rcases aaJ.1 N8 with rfl|N8
    .exact hp
    .exact a2 p N8
   .cases h
  .cases h
theorem Ik(hM:aH ρ m w)(hE:bj ρ w aY a.tmps){t kt vt:TypeId}{x:Operand}{x':X}(ht:P.underlying t=some (.map kt vt))(hx:bo x=some x')(h:step P (.WE x') aY m K):dO P (do pure (Next.value (<-Instr.range t (a.eval x)))) ρ m w K:=by
 have Bi:=aP hE hx;simp only[step]at h;generalize a.eval x=xv at Bi⊢;split at h
 .rename_i id heq;rw[heq]at Bi;obtain⟨bk,fj,h⟩:=be.1 h;rw[aX]at fj;cases bk<;>simp only at h
  rename_i es;obtain⟨l,hl,h⟩:=be.1 h;rw[ip,cr,bn]at h;obtain⟨aC,rfl⟩:=Bi;obtain⟨cV,clock,⟨hb,Qs⟩,dI,qQ⟩:=hM.bk id _ fj;obtain⟨uQ,mW⟩:=hM.still fj;have GU:=qS (ρ:=ρ) (w:=w) hl cV.toList (by simpa using dI) (fun i e he=>by
   obtain⟨e',h1,h2⟩:=qQ i e he;exact⟨e',by simpa using h1,h2⟩)
  let lo:xA:=⟨w.heap.size,0,0,0⟩;have hn:=uQ.n;have hmb:=uQ.S _ (.inr rfl);obtain⟨h1,h2⟩:=uQ.push (bk:= .it [] l) (l:=lo) (eG.alloc w (.mapIter (some (ρ.aR (.au id)).b) clock #[] clock)) (aaj _) (by simp[lo]) (by
   have cE:(bL.push {ρ with S:=fun b=>ρ.S b\/b=(ρ.aR (.au id)).b} lo).aR (.au (m.set id .bh).length)=lo:=by rw[<-hn];exact bL.gD _ lo
   refine⟨(ρ.aR (.au id)).b,#[],clock,cV,?_,?_,.inr rfl,?_,Qs,?_,aG,fun p hp=>GU.2 p (by simpa using hp)⟩
   .rw[cE];exact(heap_alloc w _).1
   .rw[cE]
   .exact((heap_alloc w _).2 _ hmb).trans hb
   .rw[<-GU.1];congr 2;exact Array.filter_eq_self.2 aG) trivial
  refine⟨_,.pointer (some ⟨w.heap.size,0,none⟩),w.alloc (.mapIter (some (ρ.aR (.au id)).b) clock #[] clock),_,_,_,?_,.inl rfl,h,h1,?_,mW.trans h2⟩
  .rw[Sem.run_bind,run_range_map w t kt vt (ρ.aR (.au id)).b cV clock ht hb];rfl
  .have cE:(bL.push {ρ with S:=fun b=>ρ.S b\/b=(ρ.aR (.au id)).b} lo).aR (.au m.length)=lo:=by
    have:=bL.gD {ρ with S:=fun b=>ρ.S b\/b=(ρ.aR (.au id)).b} lo
    rw[<-hM.n];exact this
   refine⟨by show m.length<ρ.n+1;rw[hM.n];omega,?_⟩
   rw[cE]
 .exact h.elim
theorem vy:∀{L:List MapEntry}{i:Nat}{e:MapEntry},L[i]? =some e->(L.map (·.born)).Nodup->L.filter (fun x=>!(x.born==e.born))=L.eraseIdx i
 | [],i,e,h,_=>by simp at h
 |x::r,0,e,h,hn=>by
  simp only[abR,aaA]at h;subst h;rw[aaX,abH]at hn;rw[acP,if_neg aG,List.eraseIdx_zero,List.tail_cons];refine acz.2 fun y hy=>?_
  have:y.born≠x.born:=fun he=>hn.1 (he▸aay.2 ⟨y,hy,rfl⟩)
  simpa using this
 |x::r,i+1,e,h,hn=>by
  simp only[aa9]at h;rw[aaX,abH]at hn;have:x.born≠e.born:=fun he=>hn.1 (he▸aay.2 ⟨e,aag h,rfl⟩)
  rw[acP,if_pos (by simpa using this),List.eraseIdx_cons_succ,vy h hn.2]
theorem Il{cV:Array MapEntry}{clock:Nat}(hb:np cV clock){seen:Array Nat}{i:Nat}{e:MapEntry}(h:(cV.filter fun e=>!seen.contains e.born).toList[i]? =some e):
  (cV.filter fun x=>!(seen.push e.born).contains x.born).toList=(cV.filter fun e=>!seen.contains e.born).toList.eraseIdx i:=by
 have e0:(cV.filter fun e=>!seen.contains e.born).toList=cV.toList.filter fun e=>!seen.contains e.born:=aG
 have e1:(cV.filter fun x=>!(seen.push e.born).contains x.born).toList=cV.toList.filter fun x=>!(seen.push e.born).contains x.born:=aG
 rw[e0]at h⊢;rw[e1,<-vy h ((List.filter_sublist.map _).nodup hb.2),List.filter_filter];congr 1;funext x;by_cases h1:x.born=e.born<;>simp[h1,Array.contains_push,Bool.and_comm]
theorem Im(hM:aH ρ m w)(hE:bj ρ w aY a.tmps){ty:TypeId}{x:Operand}{x':X}(hx:bo x=some x')(h:step P (.rU x') aY m K):dO P (do pure (Next.value (<-Instr.next (a.eval x) false ty))) ρ m w K:=by
 have Bi:=aP hE hx;simp only[step]at h;generalize a.eval x=xv at Bi⊢;split at h
 .rename_i id heq;rw[heq]at Bi;obtain⟨bk,fj,h⟩:=be.1 h;rw[aX]at fj;cases bk<;>simp only at h
  rename_i cur left;obtain⟨Ul,pb⟩:=h;obtain⟨aC,rfl⟩:=Bi;obtain⟨mb,seen,clock,cV,h1,h2,h3,h4,h5,h6,h7,h8⟩:=hM.bk id _ fj;have dg:Live ρ m (.au id):=⟨_,fj,aG,by rintro⟨_,_,e⟩;cases e⟩
  have hp:(Value.pointer (some ⟨(ρ.aR (.au id)).b,(ρ.aR (.au id)).ax+0,none⟩))= .pointer (some ⟨(ρ.aR (.au id)).b,0,none⟩):=by rw[h2]
  rw[hp];rcases run_next_at (P:=P) w ty (ρ.aR (.au id)).b mb clock clock seen cV clock h1 h4 h5.1 (aaj _)with⟨h0,dV⟩|⟨e,he,w1,Qt,dV⟩
  .refine dO.pure hM (v:= .tuple #[.bool false]) (by rw[Sem.run_bind,dV];rfl) (Ul ?_) ⟨[.bool false],rfl,rfl,fun i r hi=>?_⟩
   .rw[<-h6];have:(cV.filter fun e=>!seen.contains e.born).toList=[]:=List.length_eq_zero_iff.1 (by simpa[leftOf]using h0)
    rw[this];rfl
   .match i,hi with
    |0,hi=>cases hi;exact⟨_,rfl,.val _ rfl⟩
  .obtain⟨i,hi⟩:=aam he;have hi:(cV.filter fun e=>!seen.contains e.born).toList[i]? =some e:=hi
   have hli:left[i]? =some (e.key,e.val):=by rw[<-h6,aaf,hi];rfl
   have gE:=h8 _ (.inl (aag hli));have hK:=pb i e.key e.val _ hli rfl;rw[bn]at hK;have hbe:(ρ.aR (.au id)).b≠mb:=fun hh=>(hM.aV _ dg).2 (hh▸h3)
   have hh:w1.heap=w.heap/\w1.os=w.os/\w1.tape=w.tape/\w1.output=w.output:=by rcases Qt with rfl|rfl<;>exact⟨rfl,rfl,rfl,rfl⟩
   have Um:(ρ.aR (.au id)).b<w.heap.size:=(hM.aV _ dg).1;have GS:kJ w (Go.ChangeMaps.setBlock w1 (ρ.aR (.au id)).b (.mapIter (some mb) clock (seen.push e.born) clock)) (ρ.aR (.au id)).b:=
    ⟨fun b eW=>by show(w1.heap.setIfInBounds _ _)[b]? =_;rw[hh.1,abQ (Ne.symm eW)],by show(w1.heap.setIfInBounds _ _).size=_;rw[Array.size_setIfInBounds,hh.1],hh.2.1,hh.2.2.1,hh.2.2.2⟩
   obtain⟨lV,hX⟩:=hM.Ru (DZ:= .it [(e.key,e.val)] (left.eraseIdx i)) fj dg GS (fun g=>⟨mb,seen.push e.born,clock,cV,by
     show(w1.heap.setIfInBounds _ _)[_]? =_;rw[hh.1,abz Um],h2,h3,(GS.heap mb (Ne.symm hbe)).trans h4,h5,by
     rw[Il h5 hi,<-h6];exact Go.ChangeMaps.map_eraseIdx _ _ _,fun p hp=>⟨e,seen,by
      have:e∈(cV.filter fun e=>!seen.contains e.born).toList:=aag hi
      simp at this⊢;exact this.1,rfl,(abF.1 hp).symm⟩,fun p hp=>by
     rcases hp with hp|hp
     .exact h8 p (.inl (List.mem_of_mem_eraseIdx hp))
     .simp at hp;subst hp;exact gE⟩) (by
     rintro i' j' esz e ⟨es3,rows,KN,jD,_,_⟩;rw[aal (by rw[<-hM.n];exact aC)]at jD
     cases jD)
   refine⟨_,.tuple #[.bool true,e.key,e.val],_,_,_,ρ,by rw[Sem.run_bind,dV];rfl,.inl rfl,hK,lV,⟨[.bool true,e.key,e.val],rfl,rfl,fun i r hi=>?_⟩,hX⟩
   match i,hi with
   |0,hi=>cases hi;exact⟨_,rfl,.val _ rfl⟩
   |1,hi=>cases hi;exact⟨_,rfl,.val _ gE.1⟩
   |2,hi=>cases hi;exact⟨_,rfl,.val _ gE.2⟩
 .exact h.elim
theorem In(hM:aH ρ m w)(hE:bj ρ w aY a.tmps){x:Operand}{x':X}(hx:bo x=some x')(h:step P (.WG x') aY m K):dO P (do pure (Next.value (<-Instr.entry (a.eval x)))) ρ m w K:=by
 have Bi:=aP hE hx;simp only[step]at h;generalize a.eval x=xv at Bi⊢;split at h
 .rename_i id heq;rw[heq]at Bi;obtain⟨bk,fj,h⟩:=be.1 h;rw[aX]at fj;cases bk<;>try simp only at h
  rename_i cur left;split at h
  .rename_i p tl aai mO;injection mO with ha hb
   subst ha hb;obtain⟨aC,rfl⟩:=Bi;obtain⟨mb,seen,clock,cV,h1,h2,h3,h4,h5,h6,h7,h8⟩:=hM.bk id _ fj;obtain⟨e,Ku,he,rfl,hp⟩:=h7 p aG;have gE:=h8 p (.inr aG);subst hp;have hp:(Value.pointer (some ⟨(ρ.aR (.au id)).b,(ρ.aR (.au id)).ax+0,none⟩))= .pointer (some ⟨(ρ.aR (.au id)).b,0,none⟩):=by rw[h2]
   rw[hp];have dV:=run_entry_at (P:=P) w (ρ.aR (.au id)).b mb clock Ku cV clock e h1 h4 he h5.2;refine dO.pure hM (v:= .tuple #[e.key,e.val]) (by rw[Sem.run_bind,dV];rfl) h ⟨[e.key,e.val],rfl,rfl,fun i r hi=>?_⟩
   match i,hi with
   |0,hi=>cases hi;exact⟨_,rfl,.val _ gE.1⟩
   |1,hi=>cases hi;exact⟨_,rfl,.val _ gE.2⟩
  .exact h.elim
 .exact h.elim
end
end Go.AM
