/- Part 5 of 18. -/
import Derived.Test.YtojhmadmlnfpcaaGreatDoorS02
import Derived.Test.YtojhmadmlnfpcaaGreatDoorS03
import Derived.Test.YtojhmadmlnfpcaaGreatDoorS04
import Derived.Laws.IdiomStrings
import Derived.Laws.MakeOwn
import Derived.MapKept
import Derived.Maps.RangeRun
set_option linter.unusedVariables false
set_option linter.unusedSimpArgs false
set_option linter.unnecessarySimpa false
set_option maxRecDepth 100000
set_option maxHeartbeats 0
namespace Go.AM
open Go.MapKept
section
variable {P:Program} {ρ:bQ} {m:Mem} {w:World} {a8:List CV} {a:Act} {K:CV->Mem->Prop}
theorem xX:∀{E:List (List CC)}{xs:List Int},tj E=some xs->E=xs.map fun n=>[.aa (.val (.int .u8 n))]
 | [],xs,h=>by simp[tj]at h;subst h;rfl
 |cs::r,xs,h=>by
  unfold tj at h;split at h
  .rename_i heq;cases heq
  .rename_i n r' heq;cases heq;split at h
   .rename_i l hl;cases h;rw[xX hl];rfl
   .cases h
  .cases h
theorem HM(hM:aL ρ m w)(hE:bm ρ w a8 a.tmps){s d e:TypeId}{x:Operand}{x':X}(hs:P.underlying s=some (.slice e))(he:P.underlying e=some (.int .u8))(hd:P.underlying d=some .string)(hx:bt x=some x')(h:step P (.J8 x') a8 m K):dI P (do pure (Next.value (<-convert s d (a.eval x)))) ρ m w K:=by
 have cw:=aR hE hx;simp only[step]at h;obtain⟨E,zf,h⟩:=bh.1 h;obtain⟨xs,Yl,hK⟩:=bh.1 h;obtain⟨ad,cap,vs,hv,h1,h2,F⟩:=mQ hM zf cw;have hEx:=xX Yl;have C7:∀i,i<xs.length->vs[i]? =some (.int .u8 (xs.getD i 0)):=by
  intro i hi;have hg:E[i]? =some [.aa (.val (.int .u8 xs[i]))]:=by rw[hEx,Q8,IE hi];rfl
  obtain⟨u,hu,cz⟩:=F.k9 i _ 0 _ hg rfl;cases cz with
  |val v hp=>
   rw[show i=i*1+0 by omega,hu]
   simp[List.getD,IE hi]
 have hlen:E.length=xs.length:=by rw[hEx];simp
 refine dI.pure hM (v:= .string (strOfNums xs)) ?_ hK (cA rfl);rw[hv,Sem.run_bind];rcases abB E.length with h0|h0
 .have UX:xs=[]:=Z1 om;subst UX;rw[h0];cases ad with
  |none=>rw[run_convert_bytes_nil (P:=P) w s e hs he 0 cap d hd];rfl
  |some ad=>
   obtain⟨b,off,sp⟩:=ad;have:(convert s d (.slice (some ⟨b,off,sp⟩) 0 cap)).run P w= .ok (.string (strOfNums [])) w:=by
    rw[run_convert_bytes_string w s d e _ 0 cap hs he hd,run_bytesToString w _ 0 cap [] (by simp[loadCells,loadCellsFrom])]
    rfl
   rw[this];rfl
 .obtain⟨b,off,rfl,hc⟩:=F.RI h0;rw[run_convert_bytes_arg (P:=P) w s e hs he b off E.length cap xs hlen.symm (fun i hi=>hc i _ (C7 i om)) d hd]
  rfl
theorem qQ(hM:aL ρ m w){esz cap:Nat}{elems:List (List CC)}{cells:Array Value}{w':World}(Qr:eD w w')(cj:lS (esz=1) w' w.heap.size cells)(dN:cap*esz<=cells.size)(hlen:elems.length<=cap)(bq:cap<=maxLen)(nV:∀cs,cs∈elems->cs.length=esz)(hd:∀(i:Nat)cs(j:Nat)c,elems[i]? =some cs->cs[j]? =some c->∃u,cells[i*esz+j]? =some u/\bC ρ w .none c u):
  ∃ρ',aL ρ' (m++ [.row esz elems]) w'/\Ext ρ m w ρ' (m++ [.row esz elems]) w'/\
   cm ρ' w' (.rv (.one (.row m.length esz 0 none))) (.slice (some ⟨w.heap.size,0,none⟩) elems.length cap):=by
 have aB:w.heap.size<w'.heap.size:=cj.lt;let l:wW:=⟨w.heap.size,0,elems.length,cap⟩;have hn:=hM.n;have cC:(ρ.push l).aV (.ar m.length)=l:=by rw[<-hn];exact ρ.gC l
 have g:iD ρ w (ρ.push l) w':=⟨by simp[bQ.push],fun k hk=>ρ.eX l hk,fun b hb=>hb,fun b hb=>Qr.heap b (hM.S b hb)⟩
 have hb:d8 (ρ.push l) w' m.length (.row esz elems):=by
  refine⟨by rw[cC],by rw[cC];exact hlen,by rw[cC];exact bq,nV,fun _=>⟨cells,by rw[cC];exact cj,by rw[cC];simpa[l]using dN,fun i cs j c hi hj=>?_⟩⟩
  obtain⟨u,hu,cz⟩:=hd i cs j c hi hj;exact⟨u,by rw[cC];simpa[l]using hu,(cz.cQ g aG).u0 _⟩
 obtain⟨h1,h2⟩:=hM.push (l:=l) Qr (SS _) aB hb (fun i cs j c hi hj=>by obtain⟨u,hu,cz⟩:=hd i cs j c hi hj;exact cz.y7)
 refine⟨_,h1,h2,by simp[bQ.push,hn],?_⟩
 rw[cC];refine⟨aG,aG,hlen,bq,_,rfl,fun _=>?_⟩
 simp[l]
theorem HN(hM:aL ρ m w)(hE:bm ρ w a8 a.tmps){s d e:TypeId}{x:Operand}{x':X}(hs:P.underlying s=some .string)(hd:P.underlying d=some (.slice e))(he:P.underlying e=some (.int .u8))(hx:bt x=some x')(h:step P (.Uq x') a8 m K):dI P (do pure (Next.value (<-convert s d (a.eval x)))) ρ m w K:=by
 have cw:=aR hE hx;simp only[step]at h;generalize a.eval x=v at cw⊢;generalize x'.ev a8=c at cw h;split at h
 .rename_i str;obtain⟨rfl,hp⟩:=bS cw;obtain⟨dN,hK⟩:=h;rw[ik,b9]at hK;have ew:=grownCap_ge w str.size 0 e;have hle:grownCap w str.size 0 e<=maxLen:=grownCap_le_maxLen w _ 0 e (by unfold maxLen;omega)
  have eJ:(bytesRow str (grownCap w str.size 0 e)).size=grownCap w str.size 0 e:=by simp only[bytesRow,Array.size_append,Array.size_map,Array.size_replicate];have:str.data.size=str.size:=rfl;omega
  have hlen:(pL str).length=str.size:=by simp[pL]
  obtain⟨ρ',g1,g2,g3⟩:=qQ hM (esz:=1) (cap:=grownCap w str.size 0 e) (elems:=pL str) (cells:=bytesRow str (grownCap w str.size 0 e))
   (w':=w.drew.alloc (.cells (bytesRow str (grownCap w str.size 0 e)) e ((bytesRow str (grownCap w str.size 0 e)).size,(bytesRow str (grownCap w str.size 0 e)).size+1)))
   ((eD.drew w).trans (eD.alloc w.drew _)) ⟨e,_,heap_alloc_new w.drew _,aG,(fun i hi=>by simp;omega),.inl rfl⟩ (by rw[eJ];omega) (by rw[hlen];exact ew) hle
   (fun cs eJ=>by simp only[pL,aaQ]at eJ;obtain⟨_,_,rfl⟩:=eJ;rfl)
   (fun i cs j c hi hj=>by
    simp only[pL,Q8]at hi;obtain⟨b,hb,rfl⟩:=aaI.1 hi;cases j with
    |zero=>
     simp at hj;subst hj;refine⟨.int .u8 b.toNat,?_,.val _ rfl⟩;have r9:str.data[i]? =some b:=by simpa using hb
     have aB:=(aaK.1 r9).1;simp only[bytesRow,Nat.mul_one,acI];rw[acn (by simpa using aB),ac7,r9]
     rfl
    |succ j=>simp at hj)
  rw[hlen]at g3;exact⟨_,_,_,_,_,ρ',by rw[Sem.run_bind,run_bytes_of_string w s d e str hs hd he];rfl,.inl rfl,hK,g1,g3,g2⟩
 .exact h.elim
theorem xj(hM:aL ρ m w)(hE:bm ρ w a8 a.tmps){t e:TypeId}{i:TypeInfo}{z:List CC}{x y:Operand}{x' y':X}(ht:P.underlying t=some (.slice e))(hi:P.info? e=some i)(hz:dY P e=some z)(dN:i.size=z.length)(dz:0<z.length)(hb:0<i.bytes)(hx:bt x=some x')(hy:bt y=some y')(h:step P (.oP i.size i.bytes z x' y') a8 m K):dI P (do pure (Next.value (<-Instr.makeSlice t (a.eval x) (a.eval y)))) ρ m w K:=by
 simp only[step]at h;obtain⟨l,hl,h⟩:=bh.1 h;obtain⟨c,hc,h⟩:=bh.1 h;rcases cE.1 h with⟨rP,h⟩|⟨_,h⟩
 case inr=>exact h.elim
 have rP:l=c:=Z2 rP;subst rP;obtain⟨jk,hK⟩:=h;rw[ik,b9]at hK;have nat:∀{c:CV}{v:Value}{k:Nat},nR c=some k->cm ρ w c v->∃kd,v= .int kd (k:Int):=by
  intro c v k h hd;unfold nR at h;split at h
  .cases h;obtain⟨rfl,_⟩:=bS hd;exact⟨_,rfl⟩
  .cases h
 obtain⟨kl,uB⟩:=nat hl (aR hE hx);obtain⟨kc,UY⟩:=nat hc (aR hE hy);have C6:=hz;simp only[dY,SR,Q6]at C6;obtain⟨i',eu,zv,Ol,Oi⟩:=C6;rw[hi]at eu;cases eu;obtain⟨YA,RN⟩:=eZ (ρ:=ρ) (w:=w) Oi;have NX:zv.cells.size=z.length:=by simpa using YA
 have u9:l<=140737488355328:=abT (acL _ hb) jk;obtain⟨ρ',g1,g2,g3⟩:=qQ hM (esz:=i.size) (cap:=l) (elems:=fT l z) (cells:=madeCells zv.cells (l*i.size)) (w':=w.alloc (.cells (madeCells zv.cells (l*i.size)) e))
  (eD.alloc w _) (lS.new w _ e) (by rw[size_madeCells];exact SS _) (by rw[fG];simp) (by unfold maxLen;omega)
  (fun cs eJ=>by rw[fG]at eJ;rw[acd eJ,dN])
  (fun k cs j cc hk hj=>by
   rw[fG]at hk;have jI:=(Mh.1 hk).1;simp at jI;have eJ:cs=z:=by have:=Rq hk;exact acd this
   subst eJ;have AP:=(Mh.1 hj).1;obtain⟨u,hu,cz⟩:=RN j cc hj;refine⟨u,?_,cz⟩;have aB:k*i.size+j<l*i.size:=by have:(k+1)*i.size<=l*i.size:=abq _ jI;rw[abE,ab3]at this;omega
   simp only[madeCells,ac7,Array.getElem?_range];rw[if_pos aB];simp only[aaG,aag];have hm:(k*i.size+j)%zv.cells.size=j:=by rw[NX,dN,acJ,ado,adi AP]
   rw[hm];have ud:zv.cells[j]? =some u:=by simpa using hu
   rw[getElem!_def,ud])
 have UZ:(fT l z).length=l:=by rw[fG];simp
 rw[UZ]at g3;refine⟨_,_,_,_,_,ρ',?_,.inl rfl,hK,g1,g3,g2⟩;rw[uB,UY,Sem.run_bind,run_make (P:=P) w t e i zv ht hi Ol kl kc (l:Int) (l:Int) om (acP _) ?_ om]
 .rfl
 .have:i.bytes*l<=140737488355328:=by rw[acJ];exact jk
  have h2:((i.bytes*l:Nat):Int)<=((140737488355328:Nat):Int):=Int.ofNat_le.2 this;rw[Int.natCast_mul]at h2;exact Int.le_trans h2 om
def jB:Ky->TypeDesc
 | .i k=>.int k
 | .s=>.string
 | .b=>.bool
theorem xY{t:TypeId}{kk:Ky}(h:Hw P t=some kk):P.underlying t=some (jB kk):=by
 unfold Hw at h;split at h<;>simp at h<;>subst h<;>assumption
theorem Bh{kk:Ky}{v:Value}(h:xe kk v=true):IsKey (jB kk) v:=by
 cases kk<;>cases v<;>simp_all[xe,IsKey,jB]
theorem xZ{kk:Ky}{a b:Value}{t:Bool}(ha:xe kk a=true)(h:nk a b=some t):Instr.sameNow (jB kk) a b=some t/\(t=true->a=b)/\(t=false->a≠b):=by
 cases kk<;>cases a<;>simp[xe]at ha<;>cases b<;>simp only[nk,reduceCtorEq]at h
 .rename_i k x k' y;split at h
  .rename_i hk;have hk:=of_decide_eq_true hk;subst hk;cases h;refine⟨by simp[Instr.sameNow,jB],fun h=>by simp at h;rw[h],fun h=>by simp at h;simpa using h⟩
  .cases h
 .rename_i x y;cases h;refine⟨by simp[Instr.sameNow,jB],fun h=>by rw[(bytes_beq _ _).1 h],fun h e=>?_⟩
  cases e;rw[(bytes_beq _ _).2 rfl]at h;cases h
 .rename_i x y;cases h;refine⟨by simp[Instr.sameNow,jB],fun h=>by simp at h;rw[h],fun h=>by simp at h;simpa using h⟩
theorem tC{kk:Ky}{kv:Value}(hk:xe kk kv=true):∀(es:List ME)(c6:List MapEntry)(n:Nat)(o:Option RV),c6.length=es.length->
  (∀(i:Nat)e,es[i]? =some e->∃e',c6[i]? =some e'/\e'.key=e.key/\dP ρ w e.val e'.val)->nM kv es=some o->
  match o with
  |none=>Instr.findNow (jB kk) kv c6 n=some none
  |some r=>∃j v,Instr.findNow (jB kk) kv c6 n=some (some (n+j,v))/\dP ρ w r v
 | [],[],n,o,_,_,h=>by simp[nM]at h;subst h;rfl
 | [],_::_,_,_,h,_,_=>by simp at h
 |_::_,[],_,_,h,_,_=>by simp at h
 |e::es,e'::c6,n,o,hl,hr,h=>by
  obtain⟨e0,h0,nB,cw⟩:=hr 0 e rfl;simp at h0;subst h0;simp only[nM]at h;cases hq:nk kv e.key with
  |none=>rw[hq]at h;cases h
  |some t=>
   obtain⟨q1,q2,q3⟩:=xZ hk hq;rw[<-nB]at q1;cases t with
   |true=>
    rw[hq]at h;cases h;exact⟨0,e'.val,by simp[Instr.findNow,q1],cw⟩
   |false=>
    rw[hq]at h;have ih:=tC hk es c6 (n+1) o (by simpa using hl) (fun i x hx=>by simpa using hr (i+1) x (by simpa using hx)) h
    cases o with
    |none=>simpa[Instr.findNow,q1]using ih
    |some r=>
     obtain⟨j,v,h1,h2⟩:=ih;exact⟨j+1,v,by simp[Instr.findNow,q1,h1];omega,h2⟩
theorem vf{kk:Ky}{kv:Value}(hk:xe kk kv=true)(r:RV):∀(es:List ME)(c6:List MapEntry)(n:Nat)(l:List ME),c6.length=es.length->
  (∀(i:Nat)e,es[i]? =some e->∃e',c6[i]? =some e'/\e'.key=e.key/\dP ρ w e.val e'.val)->uQ kv r es=some l->
  (Instr.findNow (jB kk) kv c6 n=some none/\l=es++ [⟨kv,r⟩])\/∃j e',Instr.findNow (jB kk) kv c6 n=some (some (n+j,e'.val))/\c6[j]? =some e'/\e'.key=kv/\l=es.set j ⟨kv,r⟩
 | [],[],n,o,_,_,h=>by simp[uQ]at h;subst h;exact .inl ⟨rfl,rfl⟩
 | [],_::_,_,_,h,_,_=>by simp at h
 |_::_,[],_,_,h,_,_=>by simp at h
 |e::es,e'::c6,n,o,hl,hr,h=>by
  obtain⟨e0,h0,nB,cw⟩:=hr 0 e rfl;simp at h0;subst h0;simp only[uQ]at h;cases hq:nk kv e.key with
  |none=>rw[hq]at h;cases h
  |some t=>
   obtain⟨q1,q2,q3⟩:=xZ hk hq;rw[<-nB]at q1;cases t with
   |true=>
    rw[hq]at h;cases h;exact .inr ⟨0,e',by simp[Instr.findNow,q1],rfl,by rw[nB,q2 rfl],rfl⟩
   |false=>
    rw[hq]at h;simp only at h;split at h
    .rename_i l' Bi;cases h;rcases vf hk r es c6 (n+1) l' (by simpa using hl) (fun i x hx=>by simpa using hr (i+1) x (by simpa using hx)) Bi with⟨h1,rfl⟩|⟨j,e1,h1,h2,h3,rfl⟩
     .exact .inl ⟨by simpa[Instr.findNow,q1]using h1,rfl⟩
     .exact .inr ⟨j+1,e1,by simp[Instr.findNow,q1,h1];omega,by simpa using h2,h3,rfl⟩
    .cases h
theorem tE(hM:aL ρ m w){t:TypeId}{r:Option Value}(hr:r=none\/∃k n kt et,r=some (.int k n)/\P.underlying t=some (.map kt et))(h:step P .pk a8 m K):dI P (do pure (Next.value (<-Instr.makeMap t r))) ρ m w K:=by
 simp only[step,ik,b9]at h;let l:wW:=⟨w.heap.size,0,0,0⟩;have hn:=hM.n;have cC:(ρ.push l).aV (.ar m.length)=l:=by rw[<-hn];exact ρ.gC l
 obtain⟨h1,h2⟩:=hM.push (bk:= .mp []) (l:=l) (eD.alloc w (.map #[] 0)) (SS _) (by simp[l]) (by refine⟨#[],0,⟨?_,aG,aG⟩,rfl,aG⟩;rw[cC];exact(heap_alloc w _).1) trivial
 refine⟨.value (.map (some w.heap.size)),.map (some w.heap.size),w.alloc (.map #[] 0),_,_,_,?_,.inl rfl,h,h1,⟨by simp[bQ.push,hn],by rw[cC]⟩,h2⟩
 rcases hr with rfl|⟨k,n,kt,et,rfl,ht⟩
 .simp[Instr.makeMap]
 .simp[Instr.makeMap,run_underlying ht,asInt,asIntOf]
theorem HO{t:TypeId}{z:RV}(h:FY P t=some z):∃v,(zeroValue t).run P w= .ok v w/\dP ρ w z v:=by
 simp only[FY,SR,Q6]at h;obtain⟨i,hi,zv,Ol,h⟩:=h;refine⟨zv,by simp[zeroValue,typeInfo,hi,Ol],?_⟩
 split at h
 .rename_i cs;simp only[Q6]at h;obtain⟨zz,hz,h⟩:=h;cases h;obtain⟨h1,h2⟩:=eZ (ρ:=ρ) (w:=w) hz;exact⟨cs.toList,aG,h1,h2⟩
 .simp only[Q6]at h;obtain⟨c,hc,h⟩:=h;cases h;exact pN hc
theorem Bj(hM:aL ρ m w){c:CV}{v:Value}{es:List ME}(h:Ke m c=some es)(hd:cm ρ w c v):
  (v= .map none/\es=[])\/∃b c6 clock,v= .map (some b)/\w.heap[b]? =some (.map c6 clock)/\Di ρ w es c6:=by
 unfold Ke at h;split at h
 .rename_i id;split at h
  .rename_i es0 hb;cases h;rw[aZ]at hb;obtain⟨aB,rfl⟩:=hd;obtain⟨c6,clock,h1,h2⟩:=hM.bk id _ hb;exact .inr ⟨_,c6,clock,rfl,h1.1,h2⟩
  .cases h
 .cases h;obtain⟨rfl,_⟩:=bS hd;exact .inl ⟨rfl,rfl⟩
 .cases h
theorem DL(hM:aL ρ m w)(hE:bm ρ w a8 a.tmps){t kt vt:TypeId}{z:RV}{kk:Ky}{x k:Operand}{x' k':X}{b:Bool}(ht:P.underlying t=some (.map kt vt))(hz:FY P vt=some z)(hk:Hw P kt=some kk)(hx:bt x=some x')(Oq:bt k=some k')(h:step P (.rR z kk x' k' b) a8 m K):dI P (do pure (Next.value (<-Instr.lookup t (a.eval x) (a.eval k) b))) ρ m w K:=by
 have AQ:=aR hE hx;have DM:=aR hE Oq;simp only[step]at h;generalize a.eval x=xv at AQ⊢;generalize a.eval k=kv at DM⊢;generalize k'.ev a8=kc at DM h;split at h
 .rename_i YB;rcases cE.1 h with⟨jJ,h⟩|⟨_,h⟩
  case inr=>exact h.elim
  obtain⟨rfl,RQ⟩:=bS DM (fun e=>by subst e;cases kk<;>simp[xe]at jJ)
  obtain⟨es,nV,h⟩:=bh.1 h;obtain⟨o,ho,hK⟩:=bh.1 h;have HP:=xY hk;have nB:=Bh jJ;obtain⟨zv,UF,RN⟩:=HO (ρ:=ρ) (w:=w) hz;have k9:∀(v:Value)(r:RV)(t:Bool),dP ρ w r v->(b=true->cm ρ w (.bK [r,.one (.aa (.val (.bool t)))]) (.tuple #[v,.bool t])):=fun v r t hv _=>
   ⟨[v,.bool t],rfl,rfl,fun i r' hi=>by
    match i,hi with
    |0,hi=>cases hi;exact⟨v,rfl,hv⟩
    |1,hi=>cases hi;exact⟨_,rfl,.val _ rfl⟩⟩
  have go:∀(r:Option Nat)(c6:List MapEntry)(em:Bool),(∀(o':Option (Nat×Value)),Instr.findNow (jB kk) kv c6 0=some o'->
    (Instr.lookup t (.map r) kv b).run P w=((match o' with|some (_,v)=>(Pure.pure (v,true):Sem (Value×Bool))|none=>(do pure (<-zeroValue vt,false))).run P w).andThen fun p w'=>.ok (if b then .tuple #[p.1,.bool p.2]else p.1) w')->
    (c6.length=es.length/\∀(i:Nat)e,es[i]? =some e->∃e',c6[i]? =some e'/\e'.key=e.key/\dP ρ w e.val e'.val)->dI P (do pure (Next.value (<-Instr.lookup t (.map r) kv b))) ρ m w K:=by
   intro r c6 em dO qS;have hf:=tC (ρ:=ρ) (w:=w) jJ es c6 0 o qS.1 qS.2 ho;cases o with
   |none=>
    have h1:=dO none hf;simp only[Sem.run_bind,UF,Result.andThen_ok,Sem.run_pure]at h1;cases b with
    |false=>exact dI.pure hM (v:=zv) (by rw[Sem.run_bind,h1];rfl) hK RN
    |true=>exact dI.pure hM (v:= .tuple #[zv,.bool false]) (by rw[Sem.run_bind,h1];rfl) hK (k9 zv z false RN rfl)
   |some r=>
    obtain⟨j,v,hf,hv⟩:=hf;have h1:=dO _ hf;simp only[Sem.run_pure,Result.andThen_ok]at h1;cases b with
    |false=>exact dI.pure hM (v:=v) (by rw[Sem.run_bind,h1];rfl) hK hv
    |true=>exact dI.pure hM (v:= .tuple #[v,.bool true]) (by rw[Sem.run_bind,h1];rfl) hK (k9 v r true hv rfl)
  rcases Bj hM nV AQ with⟨rfl,rfl⟩|⟨r,c6,clock,rfl,hb,hl,hr⟩
  .refine go none [] true (fun o' im=>?_) ⟨rfl,aG⟩
   cases o' with
   |none=>cases b<;>simp[Instr.lookup,run_underlying ht,run_checkKey HP nB,run_findKey HP im,Result.andThen,UF]
   |some p=>cases b<;>simp[Instr.lookup,run_underlying ht,run_checkKey HP nB,run_findKey HP im,Result.andThen]
  .refine go (some r) c6.toList c6.isEmpty (fun o' im=>?_) ⟨by simpa using hl,fun i e he=>by
     obtain⟨e',h1,h2⟩:=hr i e he;exact⟨e',by simpa using h1,h2⟩⟩
   cases o' with
   |none=>cases b<;>simp[Instr.lookup,run_underlying ht,Go.MapKept.run_getObj_map hb,run_checkKey HP nB,run_findKey HP im,Result.andThen,UF]
   |some p=>cases b<;>simp[Instr.lookup,run_underlying ht,Go.MapKept.run_getObj_map hb,run_checkKey HP nB,run_findKey HP im,Result.andThen]
 .exact h.elim
theorem KD{c:CV}{v:Value}{r:RV}(h:Dj c=some r)(hd:cm ρ w c v):dP ρ w r v:=by
 unfold Dj at h;split at h
 .cases h;exact hd
 .cases h
theorem ng.push{es:Array MapEntry}{clock:Nat}(h:ng es clock){k v:Value}:ng (es.push {key:=k,val:=v,born:=clock}) (clock+1):=by
 refine⟨fun e he=>?_,?_⟩
 .simp only[Array.toList_push,abL,aca]at he;rcases he with he|rfl
  .exact Nat.lt_succ_of_lt (h.1 e he)
  .exact ab7 _
 .rw[Array.toList_push,abn,List.nodup_append];refine⟨h.2,aG,fun a ha b hb=>?_⟩
  obtain⟨e,he,rfl⟩:=aaQ.1 ha;simp at hb;subst hb;exact Nat.ne_of_lt (h.1 e he)
theorem ng.mod{es:Array MapEntry}{clock:Nat}(h:ng es clock){j:Nat}{k v:Value}:ng (es.modify j fun e=>{e with key:=k,val:=v}) clock:=by
 have e1:(es.modify j fun e=>{e with key:=k,val:=v}).toList.map (·.born)=es.toList.map (·.born):=by
  apply abF;intro i;rw[Q8,Q8,acb,acb,abN];split
  .cases es[i]? <;>rfl
  .rfl
 refine⟨fun e he=>?_,by rw[e1];exact h.2⟩
 have:e.born∈es.toList.map (·.born):=by rw[<-e1];exact aaQ.2 ⟨e,he,rfl⟩
 obtain⟨x,hx,hb⟩:=aaQ.1 this;rw[<-hb];exact h.1 x hx
theorem vg(hM:aL ρ m w)(hE:bm ρ w a8 a.tmps){t kt vt:TypeId}{kk:Ky}{x k v:Operand}{x' k' v':X}(ht:P.underlying t=some (.map kt vt))(hk:Hw P kt=some kk)(hx:bt x=some x')(Oq:bt k=some k')(hvx:bt v=some v')(h:step P (.rS kk x' k' v') a8 m K):dI P (do Instr.mapUpdate t (a.eval x) (a.eval k) (a.eval v);pure Next.skip) ρ m w K:=by
 have AQ:=aR hE hx;have DM:=aR hE Oq;have uA:=aR hE hvx;simp only[step]at h;generalize a.eval x=xv at AQ⊢;generalize a.eval k=kv at DM⊢;generalize a.eval v=vv at uA⊢;generalize x'.ev a8=xc at AQ h;split at h
 .rename_i id;generalize k'.ev a8=kc at DM h;split at h
  .rename_i YB;rcases cE.1 h with⟨jJ,h⟩|⟨_,h⟩
   case inr=>exact h.elim
   obtain⟨rfl,RQ⟩:=bS DM (fun e=>by subst e;cases kk<;>simp[xe]at jJ)
   obtain⟨bk,eY,h⟩:=bh.1 h;rw[aZ]at eY;cases bk<;>simp only at h
   rename_i es;obtain⟨r,hr,h⟩:=bh.1 h;obtain⟨l,hl,hK⟩:=bh.1 h;rw[bj]at hK;have HP:=xY hk;have nB:=Bh jJ;have TZ:=KD hr uA;obtain⟨aB,rfl⟩:=AQ;obtain⟨c6,clock,⟨hb,XC⟩,dN,qS⟩:=hM.bk id _ eY;have Gd:∀o,kI w {w with heap:=w.heap.setIfInBounds (ρ.aV (.ar id)).b o} (ρ.aV (.ar id)).b:=fun o=>
    ⟨fun b fc=>(heap_set (o':=o) hb).2 b fc,aG,rfl,rfl,rfl⟩
   have cG:Live ρ m (.ar id):=⟨_,eY,aG,by rintro⟨_,_,e⟩;cases e⟩
   have iC:∀(RR:Array MapEntry)(sb:Nat),ng RR sb->(Instr.mapUpdate t (.map (some (ρ.aV (.ar id)).b)) kv vv).run P w= .ok () {w with heap:=w.heap.setIfInBounds (ρ.aV (.ar id)).b (.map RR sb)}->
     (iD ρ w ρ {w with heap:=w.heap.setIfInBounds (ρ.aV (.ar id)).b (.map RR sb)}->Di ρ {w with heap:=w.heap.setIfInBounds (ρ.aV (.ar id)).b (.map RR sb)} l RR)->dI P (do Instr.mapUpdate t (.map (some (ρ.aV (.ar id)).b)) kv vv;pure Next.skip) ρ m w K:=by
    intro RR sb YC dO XD;obtain⟨lU,hX⟩:=hM.RD (Dr:= .mp l) eY cG (Gd _) (fun g=>⟨RR,sb,⟨(heap_set hb).1,YC⟩,XD g⟩) (by
     rintro i' j' esz e ⟨es3,rows,Kp,mj,_,_⟩;rw[Wl (by rw[<-hM.n];exact aB)]at mj
     cases mj)
    refine⟨.skip,Go.undef,_,.undef,_,ρ,?_,.inr ⟨rfl,rfl⟩,hK,lU,rfl,hX⟩;rw[Sem.run_bind,dO];rfl
   rcases vf (ρ:=ρ) (w:=w) jJ r es c6.toList 0 l (by simpa using dN) (fun i e he=>by
     obtain⟨e',h1,h2⟩:=qS i e he;exact⟨e',by simpa using h1,h2⟩) hl with⟨hf,rfl⟩|⟨j,e',hf,hj,Ge,rfl⟩
   .refine iC (c6.push {key:=kv,val:=vv,born:=clock}) (clock+1) (ng.push XC) ?_ fun g=>⟨by simp[dN],fun i e he=>?_⟩
    .simp[Instr.mapUpdate,run_underlying ht,Go.MapKept.run_getObj_map hb,run_checkKey HP nB,run_findKey HP hf,run_setObj_map _ hb,Result.andThen]
    .rcases ZX i es.length with h1|h1
     .rw[ZY h1]at he;obtain⟨e',h2,h3,h4⟩:=qS i e he;exact⟨e',by rw[Array.getElem?_push,if_neg om];exact h2,h3,h4.cQ g⟩
     .have hi:=(Mh.1 he).1;simp at hi;have gX:i=es.length:=om;subst gX;simp at he;subst he;exact⟨_,by rw[Array.getElem?_push,if_pos dN.symm],rfl,TZ.cQ g⟩
   .have pP:c6[j]? =some e':=by simpa using hj
    have da:=(aaK.1 pP).1;refine iC (c6.modify j fun e=>{e with key:=kv,val:=vv}) clock (ng.mod XC) ?_ fun g=>⟨by simp[dN],fun i e he=>?_⟩
    .rw[abx]at hf;simp[Instr.mapUpdate,run_underlying ht,Go.MapKept.run_getObj_map hb,run_checkKey HP nB,run_findKey HP hf,run_setObj_map _ hb,Result.andThen,pP,Ge,run_keyThatStays nB]
    .rw[abw]at he;by_cases qy:j=i
     .subst qy;rw[if_pos rfl,if_pos om]at he;cases he;exact⟨{e' with key:=kv,val:=vv},by rw[abN,if_pos rfl,pP];rfl,rfl,TZ.cQ g⟩
     .rw[if_neg qy]at he;obtain⟨e2,h2,h3,h4⟩:=qS i e he;exact⟨e2,by rw[abN,if_neg qy];exact h2,h3,h4.cQ g⟩
  .exact h.elim
 .exact h.elim
theorem aL.still(hM:aL ρ m w){id:Nat}{es:List ME}(hb:m[id]? =some (.mp es)):aL {ρ with S:=fun b=>ρ.S b\/b=(ρ.aV (.ar id)).b} (m.set id .aW) w/\Ext ρ m w {ρ with S:=fun b=>ρ.S b\/b=(ρ.aV (.ar id)).b} (m.set id .aW) w:=by
 have aB:id<m.length:=(Mh.1 hb).1;have cG:Live ρ m (.ar id):=⟨_,hb,aG,by rintro⟨_,_,e⟩;cases e⟩
 have g:iD ρ w {ρ with S:=fun b=>ρ.S b\/b=(ρ.aV (.ar id)).b} w:=⟨SS _,fun _ _=>rfl,fun _ h=>.inl h,fun b hb=>rfl⟩
 have get:∀{k:Nat}{b:Bk},(m.set id .aW)[k]? =some b->(k≠id/\m[k]? =some b)\/(k=id/\b= .aW):=by
  intro k b hb;by_cases hk:k=id
  .subst hk;rw[Wl aB]at hb;exact .inr ⟨rfl,by simpa using hb.symm⟩
  .rw[ZZ (Ne.symm hk)]at hb;exact .inl ⟨hk,hb⟩
 have il:∀{k i j esz e},fJ (m.set id .aW) k i j esz e->fJ m k i j esz e:=by
  intro k i j esz e ho;obtain⟨es,rows,cs,hb,hi,hj⟩:=ho;rcases get hb with⟨_,hb⟩|⟨_,hb⟩
  .exact⟨es,rows,cs,hb,hi,hj⟩
  .cases hb
 have du:∀k,Live {ρ with S:=fun b=>ρ.S b\/b=(ρ.aV (.ar id)).b} (m.set id .aW) k->Live ρ m k/\k≠.ar id:=by
  intro k hk;cases k with
  |ar k=>
   obtain⟨b,hb,hn,bq⟩:=hk;rcases get hb with⟨fc,hb⟩|⟨_,rfl⟩
   .exact⟨⟨b,hb,hn,bq⟩,fun e=>by cases e;exact fc rfl⟩
   .exact absurd rfl hn
  |sub k i j=>
   obtain⟨⟨esz,e,ho⟩,bq⟩:=hk;exact⟨⟨⟨esz,e,il ho⟩,bq⟩,fun e=>by cases e⟩
 refine⟨⟨by simp[hM.n],?_,?_,fun k k' hk gK=>hM.inj k k' (du k hk).1 (du k' gK).1,?_,?_⟩,
  ⟨SS _,fun _ _=>rfl,fun _ h=>.inl h,?_,fun k hk=>.inr ⟨k,(du k hk).1,rfl⟩,fun _ _ _=>rfl,SS _,rfl,rfl,rfl⟩⟩
 .rintro b (h|rfl)
  .exact hM.S b h
  .exact(hM.aQ _ cG).1
 .intro k hk;obtain⟨h1,h2⟩:=du k hk;refine⟨(hM.aQ k h1).1,?_⟩;rintro(h|h)
  .exact(hM.aQ k h1).2 h
  .exact h2 (hM.inj k _ h1 cG h)
 .intro k b hb;rcases get hb with⟨_,hb⟩|⟨_,rfl⟩
  .exact(hM.bk k b hb).cQ g (hM.fS hb) fun _ _=>rfl
  .trivial
 .intro k i j esz e ho bq;exact(hM.gO k i j esz e (il ho) bq).cQ g rfl
 .rintro b (h|rfl)
  .exact .inl h
  .exact .inr (.inr ⟨_,cG,rfl⟩)
theorem qT:∀{es:List ME}{l:List (Value×Value)},qE es=some l->∀(c6:List MapEntry),c6.length=es.length->(∀(i:Nat)e,es[i]? =some e->∃e',c6[i]? =some e'/\e'.key=e.key/\dP ρ w e.val e'.val)->
  c6.map (fun e=>(e.key,e.val))=l/\∀p,p∈l->cZ p.1=true/\cZ p.2=true
 | [],l,h,c6,hl,hr=>by
  simp[qE]at h;subst h;have:c6=[]:=List.length_eq_zero_iff.1 (by simpa using hl)
  subst this;simp
 |e::r,l,h,[],hl,hr=>by simp at hl
 |e::r,l,h,e'::r',hl,hr=>by
  obtain⟨k,v⟩:=e;unfold qE at h;split at h
  .rename_i heq;cases heq
  .rename_i k1 v1 r1 heq;cases heq;split at h
   .rename_i hp;rw[ZM]at hp;obtain⟨l1,Bf,rfl⟩:=aaI.1 h;obtain⟨a1,a2⟩:=qT Bf r' (by simpa using hl) (fun i e he=>by simpa using hr (i+1) e (by simpa using he))
    obtain⟨e0,h0,h1,h2⟩:=hr 0 _ rfl;simp only[acs,aag]at h0;subst h0;have h3:e'.val=v1:=(bS (ρ:=ρ) (w:=w) h2 (fun e=>by subst e;simp[cZ]at hp)).1
    refine⟨by rw[abv,a1,h1,h3],fun p RS=>?_⟩
    rcases abo.1 RS with rfl|RS
    .exact hp
    .exact a2 p RS
   .cases h
  .cases h
theorem HQ(hM:aL ρ m w)(hE:bm ρ w a8 a.tmps){t kt vt:TypeId}{x:Operand}{x':X}(ht:P.underlying t=some (.map kt vt))(hx:bt x=some x')(h:step P (.Xv x') a8 m K):dI P (do pure (Next.value (<-Instr.range t (a.eval x)))) ρ m w K:=by
 have AQ:=aR hE hx;simp only[step]at h;generalize a.eval x=xv at AQ⊢;split at h
 .rename_i id heq;rw[heq]at AQ;obtain⟨bk,eY,h⟩:=bh.1 h;rw[aZ]at eY;cases bk<;>simp only at h
  rename_i es;obtain⟨l,hl,h⟩:=bh.1 h;rw[ik,b9,bj]at h;obtain⟨aB,rfl⟩:=AQ;obtain⟨c6,clock,⟨hb,XC⟩,dN,qS⟩:=hM.bk id _ eY;obtain⟨uC,mR⟩:=hM.still eY;have Gf:=qT (ρ:=ρ) (w:=w) hl c6.toList (by simpa using dN) (fun i e he=>by
   obtain⟨e',h1,h2⟩:=qS i e he;exact⟨e',by simpa using h1,h2⟩)
  let lo:wW:=⟨w.heap.size,0,0,0⟩;have hn:=uC.n;have hmb:=uC.S _ (.inr rfl);obtain⟨h1,h2⟩:=uC.push (bk:= .it [] l) (l:=lo) (eD.alloc w (.mapIter (some (ρ.aV (.ar id)).b) clock #[] clock)) (SS _) (by simp[lo]) (by
   have cC:(bQ.push {ρ with S:=fun b=>ρ.S b\/b=(ρ.aV (.ar id)).b} lo).aV (.ar (m.set id .aW).length)=lo:=by rw[<-hn];exact bQ.gC _ lo
   refine⟨(ρ.aV (.ar id)).b,#[],clock,c6,?_,?_,.inr rfl,?_,XC,?_,aG,fun p hp=>Gf.2 p (by simpa using hp)⟩
   .rw[cC];exact(heap_alloc w _).1
   .rw[cC]
   .exact((heap_alloc w _).2 _ hmb).trans hb
   .rw[<-Gf.1];congr 2;exact Array.filter_eq_self.2 aG) trivial
  refine⟨_,.pointer (some ⟨w.heap.size,0,none⟩),w.alloc (.mapIter (some (ρ.aV (.ar id)).b) clock #[] clock),_,_,_,?_,.inl rfl,h,h1,?_,mR.trans h2⟩
  .rw[Sem.run_bind,run_range_map w t kt vt (ρ.aV (.ar id)).b c6 clock ht hb];rfl
  .have cC:(bQ.push {ρ with S:=fun b=>ρ.S b\/b=(ρ.aV (.ar id)).b} lo).aV (.ar m.length)=lo:=by
    have:=bQ.gC {ρ with S:=fun b=>ρ.S b\/b=(ρ.aV (.ar id)).b} lo
    rw[<-hM.n];exact this
   refine⟨by show m.length<ρ.n+1;rw[hM.n];omega,?_⟩
   rw[cC]
 .exact h.elim
theorem vh:∀{L:List MapEntry}{i:Nat}{e:MapEntry},L[i]? =some e->(L.map (·.born)).Nodup->L.filter (fun x=>!(x.born==e.born))=L.eraseIdx i
 | [],i,e,h,_=>by simp at h
 |x::r,0,e,h,hn=>by
  simp only[acs,aag]at h;subst h;rw[abv,acj]at hn;rw[adk,if_neg aG,List.eraseIdx_zero,List.tail_cons];refine ac4.2 fun y hy=>?_
  have:y.born≠x.born:=fun he=>hn.1 (he▸aaQ.2 ⟨y,hy,rfl⟩)
  simpa using this
 |x::r,i+1,e,h,hn=>by
  simp only[abY]at h;rw[abv,acj]at hn;have:x.born≠e.born:=fun he=>hn.1 (he▸aaQ.2 ⟨e,Rq h,rfl⟩)
  rw[adk,if_pos (by simpa using this),List.eraseIdx_cons_succ,vh h hn.2]
theorem HR{c6:Array MapEntry}{clock:Nat}(hb:ng c6 clock){seen:Array Nat}{i:Nat}{e:MapEntry}(h:(c6.filter fun e=>!seen.contains e.born).toList[i]? =some e):
  (c6.filter fun x=>!(seen.push e.born).contains x.born).toList=(c6.filter fun e=>!seen.contains e.born).toList.eraseIdx i:=by
 have e0:(c6.filter fun e=>!seen.contains e.born).toList=c6.toList.filter fun e=>!seen.contains e.born:=aG
 have e1:(c6.filter fun x=>!(seen.push e.born).contains x.born).toList=c6.toList.filter fun x=>!(seen.push e.born).contains x.born:=aG
 rw[e0]at h⊢;rw[e1,<-vh h ((List.filter_sublist.map _).nodup hb.2),List.filter_filter];congr 1;funext x;by_cases h1:x.born=e.born<;>simp[h1,Array.contains_push,Bool.and_comm]
theorem HS(hM:aL ρ m w)(hE:bm ρ w a8 a.tmps){ty:TypeId}{x:Operand}{x':X}(hx:bt x=some x')(h:step P (.th x') a8 m K):dI P (do pure (Next.value (<-Instr.next (a.eval x) false ty))) ρ m w K:=by
 have AQ:=aR hE hx;simp only[step]at h;generalize a.eval x=xv at AQ⊢;split at h
 .rename_i id heq;rw[heq]at AQ;obtain⟨bk,eY,h⟩:=bh.1 h;rw[aZ]at eY;cases bk<;>simp only at h
  rename_i cur left;obtain⟨U0,pu⟩:=h;obtain⟨aB,rfl⟩:=AQ;obtain⟨mb,seen,clock,c6,h1,h2,h3,h4,h5,h6,h7,h8⟩:=hM.bk id _ eY;have cG:Live ρ m (.ar id):=⟨_,eY,aG,by rintro⟨_,_,e⟩;cases e⟩
  have hp:(Value.pointer (some ⟨(ρ.aV (.ar id)).b,(ρ.aV (.ar id)).aA+0,none⟩))= .pointer (some ⟨(ρ.aV (.ar id)).b,0,none⟩):=by rw[h2]
  rw[hp];rcases run_next_at (P:=P) w ty (ρ.aV (.ar id)).b mb clock clock seen c6 clock h1 h4 h5.1 (SS _)with⟨h0,dO⟩|⟨e,he,w1,T0,dO⟩
  .refine dI.pure hM (v:= .tuple #[.bool false]) (by rw[Sem.run_bind,dO];rfl) (U0 ?_) ⟨[.bool false],rfl,rfl,fun i r hi=>?_⟩
   .rw[<-h6];have:(c6.filter fun e=>!seen.contains e.born).toList=[]:=List.length_eq_zero_iff.1 (by simpa[leftOf]using h0)
    rw[this];rfl
   .match i,hi with
    |0,hi=>cases hi;exact⟨_,rfl,.val _ rfl⟩
  .obtain⟨i,hi⟩:=Xf he;have hi:(c6.filter fun e=>!seen.contains e.born).toList[i]? =some e:=hi
   have hli:left[i]? =some (e.key,e.val):=by rw[<-h6,Q8,hi];rfl
   have fW:=h8 _ (.inl (Rq hli));have hK:=pu i e.key e.val _ hli rfl;rw[bj]at hK;have hbe:(ρ.aV (.ar id)).b≠mb:=fun hh=>(hM.aQ _ cG).2 (hh▸h3)
   have hh:w1.heap=w.heap/\w1.os=w.os/\w1.tape=w.tape/\w1.output=w.output:=by rcases T0 with rfl|rfl<;>exact⟨rfl,rfl,rfl,rfl⟩
   have U1:(ρ.aV (.ar id)).b<w.heap.size:=(hM.aQ _ cG).1;have Gd:kI w (Go.ChangeMaps.setBlock w1 (ρ.aV (.ar id)).b (.mapIter (some mb) clock (seen.push e.born) clock)) (ρ.aV (.ar id)).b:=
    ⟨fun b fc=>by show(w1.heap.setIfInBounds _ _)[b]? =_;rw[hh.1,acr (Ne.symm fc)],by show(w1.heap.setIfInBounds _ _).size=_;rw[Array.size_setIfInBounds,hh.1],hh.2.1,hh.2.2.1,hh.2.2.2⟩
   obtain⟨lU,hX⟩:=hM.RD (Dr:= .it [(e.key,e.val)] (left.eraseIdx i)) eY cG Gd (fun g=>⟨mb,seen.push e.born,clock,c6,by
     show(w1.heap.setIfInBounds _ _)[_]? =_;rw[hh.1,acg U1],h2,h3,(Gd.heap mb (Ne.symm hbe)).trans h4,h5,by
     rw[HR h5 hi,<-h6];exact Go.ChangeMaps.map_eraseIdx _ _ _,fun p hp=>⟨e,seen,by
      have:e∈(c6.filter fun e=>!seen.contains e.born).toList:=Rq hi
      simp at this⊢;exact this.1,rfl,(aca.1 hp).symm⟩,fun p hp=>by
     rcases hp with hp|hp
     .exact h8 p (.inl (List.mem_of_mem_eraseIdx hp))
     .simp at hp;subst hp;exact fW⟩) (by
     rintro i' j' esz e ⟨es3,rows,Kp,mj,_,_⟩;rw[Wl (by rw[<-hM.n];exact aB)]at mj
     cases mj)
   refine⟨_,.tuple #[.bool true,e.key,e.val],_,_,_,ρ,by rw[Sem.run_bind,dO];rfl,.inl rfl,hK,lU,⟨[.bool true,e.key,e.val],rfl,rfl,fun i r hi=>?_⟩,hX⟩
   match i,hi with
   |0,hi=>cases hi;exact⟨_,rfl,.val _ rfl⟩
   |1,hi=>cases hi;exact⟨_,rfl,.val _ fW.1⟩
   |2,hi=>cases hi;exact⟨_,rfl,.val _ fW.2⟩
 .exact h.elim
theorem HT(hM:aL ρ m w)(hE:bm ρ w a8 a.tmps){x:Operand}{x':X}(hx:bt x=some x')(h:step P (.Xw x') a8 m K):dI P (do pure (Next.value (<-Instr.entry (a.eval x)))) ρ m w K:=by
 have AQ:=aR hE hx;simp only[step]at h;generalize a.eval x=xv at AQ⊢;split at h
 .rename_i id heq;rw[heq]at AQ;obtain⟨bk,eY,h⟩:=bh.1 h;rw[aZ]at eY;cases bk<;>try simp only at h
  rename_i cur left;split at h
  .rename_i p tl abu oT;injection oT with ha hb
   subst ha hb;obtain⟨aB,rfl⟩:=AQ;obtain⟨mb,seen,clock,c6,h1,h2,h3,h4,h5,h6,h7,h8⟩:=hM.bk id _ eY;obtain⟨e,J7,he,rfl,hp⟩:=h7 p aG;have fW:=h8 p (.inr aG);subst hp;have hp:(Value.pointer (some ⟨(ρ.aV (.ar id)).b,(ρ.aV (.ar id)).aA+0,none⟩))= .pointer (some ⟨(ρ.aV (.ar id)).b,0,none⟩):=by rw[h2]
   rw[hp];have dO:=run_entry_at (P:=P) w (ρ.aV (.ar id)).b mb clock J7 c6 clock e h1 h4 he h5.2;refine dI.pure hM (v:= .tuple #[e.key,e.val]) (by rw[Sem.run_bind,dO];rfl) h ⟨[e.key,e.val],rfl,rfl,fun i r hi=>?_⟩
   match i,hi with
   |0,hi=>cases hi;exact⟨_,rfl,.val _ fW.1⟩
   |1,hi=>cases hi;exact⟨_,rfl,.val _ fW.2⟩
  .exact h.elim
 .exact h.elim
end
end Go.AM
namespace Go.AM
section
variable {P:Program} {ρ:bQ} {m:Mem} {w:World} {a8:List CV} {a:Act} {K:CV->Mem->Prop}
theorem vj{α:Type}{l:List α}{h:Nat}{E:List α}(hle:h+E.length<=l.length):(cV l h E).length=l.length:=by simp[cV];omega
theorem pS{α:Type}{l:List α}{h:Nat}{E:List α}(hle:h+E.length<=l.length)(i:Nat):(cV l h E)[i]? =if h<=i/\i<h+E.length then E[i-h]? else l[i]? :=by
 have hl:(l.take h).length=h:=by simp;omega
 simp only[cV];rcases ZX i h with h1|h1
 .rw[ZY om,if_neg om,abm,if_pos h1]
 .rw[ZW om,hl];rcases ZX (i-h) E.length with h2|h2
  .rw[ZY h2,if_pos om]
  .rw[ZW h2,if_neg om,abG];congr 1;omega
theorem bC.KE{c:CC}{v:Value}{pos:Option (Nat×Nat×Nat)}(hc:c.iK=true)(h:bC ρ w pos c v):bC ρ w .none c v:=by
 cases c<;>first|exact h|simp[CC.iK]at hc
theorem se(hM:aL ρ m w){id esz h:Nat}{rows E:List (List CC)}{vs:List Value}(hb:m[id]? =some (.row esz rows))(hle:h+E.length<=rows.length)(dz:0<rows.length)(hE:∀cs,cs∈E->cs.length=esz)(uB:vs.length=E.length*esz)(YD:∀u,u∈vs->u.oneCell'=true)(cw:∀(i:Nat)cs(j:Nat)c,E[i]? =some cs->cs[j]? =some c->∃u,vs[i*esz+j]? =some u/\bC ρ w .none c u):
  ∃w',(storeCells ⟨(ρ.aV (.ar id)).b,(ρ.aV (.ar id)).aA+h*esz,none⟩ vs).run P w= .ok () w'/\aL ρ (m.set id (.row esz (cV rows h E))) w'/\Ext ρ m w ρ (m.set id (.row esz (cV rows h E))) w':=by
 have hid:id<m.length:=(Mh.1 hb).1;obtain⟨h2,h3,h4,h5,AO⟩:=hM.bk id _ hb;have bq:0<(ρ.aV (.ar id)).cap:=om;obtain⟨cur,cj,h1,hd⟩:=AO bq;have hmul:(h+E.length)*esz<=(ρ.aV (.ar id)).cap*esz:=abq _ om;rw[abE]at hmul;obtain⟨w',gq,hr,qH,ht,dN,hk⟩:=mP (P:=P) (ρ.aV (.ar id)).b ((ρ.aV (.ar id)).aA+h*esz) vs 0 cur w cj (by rw[uB];omega) YD
 obtain⟨lU,hX⟩:=hM.RD (Dr:= .row esz (cV rows h E)) hb ⟨_,hb,aG,fun _=>bq⟩ ht (fun g=>⟨by rw[vj hle];exact h2,h3,h4,fun cs eJ=>by
   obtain⟨i,hi⟩:=Xf eJ;rw[pS hle]at hi;split at hi
   .exact hE cs (Rq hi)
   .exact h5 cs (Rq hi),fun _=>⟨gq,qH,by rw[dN];exact h1,fun i cs j c hi hj=>by
  rw[hk];rw[pS hle]at hi;have km:j<esz:=by
   have fU:cs.length=esz:=by
    split at hi
    .exact hE cs (Rq hi)
    .exact h5 cs (Rq hi)
   rw[<-fU];exact(Mh.1 hj).1
  split at hi
  .rename_i gL;obtain⟨u,hu,cz⟩:=cw _ cs j c hi hj;have e1:i*esz=h*esz+(i-h)*esz:=by rw[<-abE];congr 1;omega
   have aB:=(Mh.1 hu).1;rw[if_pos om];refine⟨u,?_,(cz.cQ g aG).u0 _⟩;rw[<-hu];congr 1;omega
  .rename_i gL;obtain⟨u,hu,cz⟩:=hd i cs j c hi hj;have fc:¬((ρ.aV (.ar id)).aA+h*esz+0<=(ρ.aV (.ar id)).aA+i*esz+j/\(ρ.aV (.ar id)).aA+i*esz+j<(ρ.aV (.ar id)).aA+h*esz+0+vs.length):=by
    rw[uB];rcases ZX i h with q|q
    .have:(i+1)*esz<=h*esz:=abq _ q;rw[abE,ab3]at this;omega
    .have:(h+E.length)*esz<=i*esz:=abq _ om;rw[abE]at this;omega
   rw[if_neg fc];exact⟨u,hu,cz.cQ g (by rintro _ _ _ e;cases e;rw[hM.n];exact hid)⟩⟩⟩) (by
  rintro i' j' xf e ⟨es,Qx,Kp,mj,eC,kj⟩;rw[Wl hid]at mj;cases mj;rw[pS hle]at eC;split at eC
  .obtain⟨u,hu,cz⟩:=cw _ _ _ _ eC kj;exact absurd rfl (cz.y7 _ _)
  .exact⟨esz,rows,Kp,hb,eC,kj⟩)
 exact⟨w',hr,lU,hX⟩
theorem vl:∀{cs:List CC},pJ cs=true->∀c,c∈cs->c.iK=true
 | [],_,c,h=>by simp at h
 |x::r,h,c,hc=>by
  simp only[pJ,ZM]at h;rcases abo.1 hc with rfl|hc
  .exact h.1
  .exact vl h.2 c hc
theorem pw:∀{E:List (List CC)},fp E=true->∀cs,cs∈E->pJ cs=true
 | [],_,c,h=>by simp at h
 |x::r,h,c,hc=>by
  simp only[fp,ZM]at h;rcases abo.1 hc with rfl|hc
  .exact h.1
  .exact pw h.2 c hc
theorem px{E:List (List CC)}(h:fp E=true){i j:Nat}{cs:List CC}{c:CC}(hi:E[i]? =some cs)(hj:cs[j]? =some c):c.iK=true:=
 vl (pw h cs (Rq hi)) c (Rq hj)
theorem Bl(hM:aL ρ m w){t t2 ty e e2:TypeId}{i:TypeInfo}{z:List CC}{v v2:Value}{c2:CV}{id h:Nat}{rows E2:List (List CC)}(ht:P.underlying t=some (.slice e))(u7:P.underlying t2=some (.slice e2))(hi:P.info? e=some i)(hz:dY P e=some z)(dN:i.size=z.length)(hb:0<i.bytes)(hd:cm ρ w (.rv (.one (.row id i.size 0 (some h)))) v)(po:cm ρ w c2 v2)(eY:m[id]? =some (.row i.size rows))(C8:fo m i.size c2=some E2)(dz:0<rows.length)(hle:h+E2.length<=rows.length)(jc:fp E2=true)(jk:rows.length*i.bytes<=140737488355328)(hK:K (.rv (.one (.row id i.size 0 (some (h+E2.length))))) (m.set id (.row i.size (cV rows h E2)))):
  dI P (do pure (Next.value (<-Builtin.append_ #[t,t2] ty #[v,v2]))) ρ m w K:=by
 have hid:id<m.length:=(Mh.1 eY).1;have zf:fo m i.size (.rv (.one (.row id i.size 0 (some h))))=some (cD rows 0 (some h)):=by simp[fo,aZ,eY]
 obtain⟨Oj,jS,TV,DI,UN,Ok,F1⟩:=mQ hM zf hd;obtain⟨ad2,Kz,KA,zg,UO,UP,F2⟩:=mQ hM C8 po;have C6:=hz;simp only[dY,SR,Q6]at C6;obtain⟨i',eu,zv,Ol,Oi⟩:=C6;rw[hi]at eu;cases eu;have U2:(cD rows 0 (some h)).length=h:=by rw[lD];simp;omega
 rw[U2]at DI UN;have U3:(h+E2.length)*i.bytes<=140737488355328:=abT (abq _ hle) jk;have dO:=nY (P:=P) (w:=w) (ty:=ty) ht u7 hi Ol (a0:=Oj) (n1:=h) (c1:=jS) (n2:=E2.length) (src:=v2) (olds:=TV) (news:=KA)
  (by rw[zg];rfl) (fun k=>by rw[zg];exact F2.firstCells Kz k) (fun k=>by have:=F1.firstCells (P:=P) jS k;rwa [U2]at this) hb U3
 obtain⟨r2,r3,r4,r5,HK⟩:=hM.bk id _ eY;obtain⟨aB,d1,d2,d3,d4,ad,On,ub⟩:=hd;rw[On]at DI;injection DI with q1 q2 q3
 simp only[aci]at q3;have Dv:h+E2.length<=jS:=by rw[<-q3];clear HK;omega
 have sa:=ub (by clear HK;omega)
 rw[if_pos Dv]at dO;obtain⟨w',ua,lU,hX⟩:=se (P:=P) hM (h:=h) (E:=E2) (vs:=KA) eY hle dz F2.lh F2.len F2.one (fun k cs j c hk hj=>by obtain⟨u,hu,cz⟩:=F2.k9 k cs j c hk hj;exact⟨u,hu,cz.KE (px jc hk hj)⟩)
 refine⟨.value (.slice Oj (h+E2.length) jS),_,w',.rv (.one (.row id i.size 0 (some (h+E2.length)))),_,ρ,?_,.inl rfl,hK,lU,?_,hX⟩
 .rw[On,q1,q2,show(ρ.aV (.ar id)).cap-0=jS by simpa using q3,Sem.run_bind,dO]
  rw[<-q1,sa];simp only[xT,lT,Nat.zero_mul,acI];rw[ua];rfl
 .refine⟨aB,Wi _,?_,d3,d4,Oj,?_,fun h0=>by rw[<-q1];exact ub h0⟩
  .show h+E2.length<=_;clear HK;omega
  .simp only[abI,aci];rw[q3]
theorem Bm(hM:aL ρ m w){t ty e:TypeId}{i:TypeInfo}{z:List CC}{v:Value}{id lo hi:Nat}{rows:List (List CC)}(ht:P.underlying t=some (.slice e))(eu:P.info? e=some i)(hz:dY P e=some z)(dN:i.size=z.length)(hd:cm ρ w (.rv (.one (.row id i.size lo (some hi)))) v)(eY:m[id]? =some (.row i.size rows))(ic:lo<hi)(hle:hi<=rows.length)(hK:K (.bK []) (m.set id (.row i.size (cV rows lo (fT (hi-lo) z))))):
  dI P (do pure (Next.value (<-Builtin.clear_ #[t] ty #[v]))) ρ m w K:=by
 have hid:id<m.length:=(Mh.1 eY).1;have C6:=hz;simp only[dY,SR,Q6]at C6;obtain⟨i',eC,zv,Ol,Oi⟩:=C6;rw[eu]at eC;cases eC;obtain⟨YA,RN⟩:=eZ (ρ:=ρ) (w:=w) Oi;have NX:zv.cells.size=z.length:=by simpa using YA
 obtain⟨r2,r3,r4,r5,HK⟩:=hM.bk id _ eY;obtain⟨aB,d1,d2,d3,d4,ad,On,ub⟩:=hd;have sa:=ub (by clear HK;omega)
 have hrl:(fT (hi-lo) z).length=hi-lo:=by rw[fG];simp
 obtain⟨w',ua,lU,hX⟩:=se (P:=P) hM (h:=lo) (E:=fT (hi-lo) z) (vs:=(Builtin.zeroCells zv.cells (hi-lo)).toList) eY (by rw[hrl];omega) om
  (fun cs eJ=>by rw[fG]at eJ;rw[acd eJ,dN]) (by rw[hrl,ab9,size_zeroCells,NX,dN])
  (fun u hu=>by
   rw[acY]at hu;simp only[Builtin.zeroCells,Array.mem_map]at hu;obtain⟨k,hk,rfl⟩:=hu;have hk:k<(hi-lo)*zv.cells.size:=by simpa using hk
   have hzp:0<zv.cells.size:=by
    rcases abB zv.cells.size with h0|h0
    .rw[h0]at hk;simp at hk
    .exact h0
   have hm:k%zv.cells.size<zv.cells.size:=Nat.mod_lt _ hzp;rw[NX]at hm;obtain⟨u,hu,cz⟩:=RN _ _ (IE hm);have ud:zv.cells[k%zv.cells.size]? =some u:=by rw[NX];simpa using hu
   rw[getElem!_def,ud];exact cz.one)
  (fun k cs j c hk hj=>by
   rw[fG]at hk;have jI:=(Mh.1 hk).1;simp at jI;have eJ:cs=z:=acd (Rq hk);subst eJ;have AP:=(Mh.1 hj).1;obtain⟨u,hu,cz⟩:=RN j c hj;refine⟨u,?_,cz⟩;have aB:k*i.size+j<(hi-lo)*zv.cells.size:=by have:(k+1)*i.size<=(hi-lo)*i.size:=abq _ jI;rw[abE,ab3]at this;rw[NX,<-dN];omega
   simp only[Builtin.zeroCells,acb,ac7,Array.getElem?_range];rw[if_pos aB];simp only[aaG,aag];have hm:(k*i.size+j)%zv.cells.size=j:=by rw[NX,dN,acJ,ado,adi AP]
   rw[hm];have ud:zv.cells[j]? =some u:=by simpa using hu
   rw[getElem!_def,ud])
 refine⟨.value (.tuple #[]),_,w',.bK [],_,ρ,?_,.inl rfl,hK,lU,⟨[],rfl,rfl,fun i r h=>by simp at h⟩,hX⟩
 have hn:hi-lo≠0:=om;simp only[abI]at On;rw[On,sa];obtain⟨n,NV⟩:∃n,hi-lo=n+1:=⟨hi-lo-1,om⟩;rw[NV]at ua⊢;simp[Builtin.clear_,run_underlying ht,zeroValue,typeInfo,eu,Ol,ua]
theorem HU(hM:aL ρ m w)(hE:bm ρ w a8 a.tmps){t t2 ty e e2:TypeId}{i:TypeInfo}{z:List CC}{x y:Operand}{x' y':X}(ht:P.underlying t=some (.slice e))(u7:P.underlying t2=some (.slice e2))(hi:P.info? e=some i)(hz:dY P e=some z)(dN:i.size=z.length)(dz:0<z.length)(hb:0<i.bytes)(hx:bt x=some x')(hy:bt y=some y')(h:step P (.ni i.size i.bytes x' y') a8 m K):
  dI P (do pure (Next.value (<-Builtin.append_ #[t,t2] ty #[a.eval x,a.eval y]))) ρ m w K:=by
 simp only[step]at h;rcases cE.1 h with⟨xW,g1⟩|⟨_,g1⟩
 .exact DH hM hE ht u7 hi hz dN dz hb hx hy xW g1
 .have hd:=aR hE hx;have po:=aR hE hy;split at g1
  .rename_i id e1 lo hh Qt;rw[Qt]at hd;obtain⟨bk,eY,g2⟩:=bh.1 g1;rw[aZ]at eY;split at g2
   .rename_i e2' rows;obtain⟨E2,C8,g3⟩:=bh.1 g2;rcases cE.1 g3 with⟨hc,jk,hK⟩|⟨_,g4⟩
    case inr=>exact g4.elim
    simp only[ZM,abr]at hc;obtain⟨q1,q2,q3,c1,c2,c3⟩:=hc;have q1:=Z2 q1;have q2:=Z2 q2;have q3:=Z2 q3;subst q1 q2 q3;rw[bj]at hK;exact Bl hM ht u7 hi hz dN hb hd po eY C8 c1 c2 c3 jk hK
   .exact g2.elim
  .exact g1.elim
theorem HV(hM:aL ρ m w)(hE:bm ρ w a8 a.tmps){t ty e:TypeId}{i:TypeInfo}{z:List CC}{x:Operand}{x':X}(ht:P.underlying t=some (.slice e))(hi:P.info? e=some i)(hz:dY P e=some z)(dN:i.size=z.length)(hx:bt x=some x')(h:step P (.TT i.size z x') a8 m K):
  dI P (do pure (Next.value (<-Builtin.clear_ #[t] ty #[a.eval x]))) ρ m w K:=by
 have hd:=aR hE hx;simp only[step]at h;generalize a.eval x=v at hd⊢;generalize x'.ev a8=c at hd h;have nothing:∀ad cap,v= .slice ad 0 cap->K (.bK []) m->dI P (do pure (Next.value (<-Builtin.clear_ #[t] ty #[v]))) ρ m w K:=by
  intro ad cap hv hK;refine⟨.value (.tuple #[]),_,w,.bK [],m,ρ,?_,.inl rfl,hK,hM,⟨[],rfl,rfl,fun i r h=>by simp at h⟩,Ext.refl _ _ _⟩
  subst hv;cases ad<;>simp[Builtin.clear_,run_underlying ht]
 split at h
 .rename_i id e1 lo eu;obtain⟨bk,eY,h⟩:=bh.1 h;rw[aZ]at eY;split at h
  .rename_i e2 rows;rcases cE.1 h with⟨hc,gL⟩|⟨_,gL⟩
   case inr=>exact gL.elim
   clear h;simp only[ZM,abr]at hc;obtain⟨q1,q2,hle⟩:=hc;have q1:=Z2 q1;have q2:=Z2 q2;subst q1 q2;obtain⟨r2,_⟩:=hM.bk id _ eY;have C5:cm ρ w (.rv (.one (.row id i.size lo (some (pK eu rows.length))))) v:=by
    obtain⟨d0,d1,d2,d3,d4,ad,hv,ub⟩:=hd;cases eu with
    |none=>
     simp only[acy]at d1 d2 hv;refine⟨d0,?_,?_,d3,d4,ad,?_,ub⟩<;>simp only[pK,abI,r2]
     .exact d1
     .exact SS _
     .exact hv
    |some hh=>exact⟨d0,d1,d2,d3,d4,ad,hv,ub⟩
   rcases cE.1 gL with⟨aB,hK⟩|⟨ew,hK⟩
   .rw[bj]at hK;exact Bm hM ht hi hz dN C5 eY (by simpa[abU]using aB) hle hK
   .have ew:¬lo<pK eu rows.length:=fun hh=>by rw[<-abU,ew]at hh;cases hh
    obtain⟨d0,d1,d2,d3,d4,ad,hv,ub⟩:=C5;simp only[abI]at hv;rw[show pK eu rows.length-lo=0 by omega]at hv
    exact nothing _ _ hv hK
  .exact h.elim
 .obtain⟨ad,hv⟩:=hd;exact nothing _ _ hv h
 .exact h.elim
theorem KF{c:CV}{v:Value}(hc:Kc c=true)(hd:cm ρ w c v):∃ad n cap,v= .slice ad n cap:=by
 unfold Kc at hc;split at hc;all_goals first
  |(cases hc;done)
  |(have hd:dv _ _ _ _:=hd;cases hd<;>exact⟨_,_,_,rfl⟩)
  |(obtain⟨a,hv⟩:=hd;exact⟨_,_,_,hv⟩)
  |(obtain⟨_,_,_,_,_,a,hv,_⟩:=hd;exact⟨_,_,_,hv⟩)
theorem DN(hM:aL ρ m w)(hE:bm ρ w a8 a.tmps){t t2 ty e:TypeId}{i:TypeInfo}{z:List CC}{x y:Operand}{x' y':X}(ht:P.underlying t=some (.slice e))(hi:P.info? e=some i)(hz:dY P e=some z)(dN:i.size=z.length)(hx:bt x=some x')(hy:bt y=some y')(h:step P (.copy i.size x' y') a8 m K):
  dI P (do pure (Next.value (<-Builtin.copy_ #[t,t2] ty #[a.eval x,a.eval y]))) ρ m w K:=by
 have hd:=aR hE hx;have po:=aR hE hy;simp only[step]at h;generalize a.eval x=v at hd⊢;generalize a.eval y=v2 at po⊢;generalize x'.ev a8=c at hd h;generalize y'.ev a8=c2 at po h;obtain⟨E,C8,h⟩:=bh.1 h;obtain⟨ad2,Kz,KA,zg,UO,UP,F2⟩:=mQ hM C8 po;have hn:=F2.firstCells (P:=P) Kz 0;rw[show w.drewN 0=w from rfl]at hn;have h':=h;clear h;rcases cE.1 h' with⟨h0,g⟩|⟨h0,g⟩
 .have h0:E.length=0:=Z2 h0;rcases cE.1 g with⟨hs,hK⟩|⟨_,g⟩
  case inr=>exact g.elim
  obtain⟨ad,n,cap,hv⟩:=KF hs hd;have uB:KA=[]:=Z1 (by rw[F2.len,h0,Nat.zero_mul])
  rw[h0]at hn zg;rw[uB]at hn;refine⟨.value (goInt 0),_,w,an .i64 0,m,ρ,?_,.inl rfl,hK,hM,dv.val (.int .i64 0) rfl,Ext.refl _ _ _⟩;subst hv zg;cases ad<;>simp[Builtin.copy_,run_underlying ht,Builtin.lenOf,sizeOf,typeInfo,hi,hn,storeCells]
 .split at g
  .clear h';rename_i rid e1 lo eu;obtain⟨bk,eY,g⟩:=bh.1 g;rw[aZ]at eY;split at g
   .rename_i e2 rows;rcases cE.1 g with⟨hc,hK⟩|⟨_,g⟩
    case inr=>exact g.elim
    clear g;simp only[ZM,abr]at hc;obtain⟨q1,q2,hle,jk,jc⟩:=hc;have q1:=Z2 q1;have q2:=Z2 q2;subst q1 q2;have dz:0<E.length:=by
     rcases abB E.length with e0|e0
     .rw[e0]at h0;cases h0
     .exact e0
    obtain⟨r2,r3,_⟩:=hM.bk rid _ eY;have C5:cm ρ w (.rv (.one (.row rid i.size lo (some (pK eu rows.length))))) v:=by
     obtain⟨d0,d1,d2,d3,d4,ad,hv,ub⟩:=hd;cases eu with
     |none=>
      simp only[acy]at d1 d2 hv;refine⟨d0,?_,?_,d3,d4,ad,?_,ub⟩<;>simp only[pK,abI,r2]
      .exact d1
      .exact SS _
      .exact hv
     |some hh=>exact⟨d0,d1,d2,d3,d4,ad,hv,ub⟩
    obtain⟨w',ua,lU,hX⟩:=se (P:=P) hM (h:=lo) (E:=E) (vs:=KA) eY om om F2.lh F2.len F2.one (fun k cs j c hk hj=>by obtain⟨u,hu,cz⟩:=F2.k9 k cs j c hk hj;exact⟨u,hu,cz.KE (px jc hk hj)⟩)
    rw[bj]at hK;obtain⟨d0,d1,d2,d3,d4,ad,hv,ub⟩:=C5;simp only[abI]at hv d2;have sa:=ub om;have HW:Nat.min E.length (pK eu rows.length-lo)=E.length:=acZ om;refine⟨.value (goInt E.length),_,w',an .i64 (E.length:Int),_,ρ,?_,.inl rfl,hK,lU,dv.val (.int .i64 (E.length:Int)) rfl,hX⟩;subst hv zg sa;simp[Builtin.copy_,run_underlying ht,Builtin.lenOf,sizeOf,typeInfo,hi,hn,HW,ua]
   .exact g.elim
  .exact g.elim
theorem DO(hM:aL ρ m w)(hE:bm ρ w a8 a.tmps){t e:TypeId}{n sz:Nat}{agg:Bool}{x k:Operand}{x' k':X}(hu:P.underlying t=some (.array n e))(ha:ep P e=some agg)(hs:eL P e=some sz)(hx:bt x=some x')(hk:bt k=some k')(h:step P (.J9 agg n sz x' k') a8 m K):dI P (do pure (Next.value (<-Instr.index t (a.eval x) (a.eval k)))) ρ m w K:=by
 have hd:=aR hE hx;have DM:=aR hE hk;simp only[step]at h;generalize a.eval x=v at hd⊢;generalize a.eval k=vk at DM⊢;generalize x'.ev a8=c at hd h;generalize k'.ev a8=ck at DM h;split at h
 .rename_i kd j;obtain⟨rfl,_⟩:=bS DM;split at h
  .rename_i cs;obtain⟨vs,rfl,hl,hc⟩:=hd;obtain⟨kk,x4,g1⟩:=bh.1 h;obtain⟨hj,aB⟩:=ml x4;obtain⟨l,hr,g2⟩:=bh.1 g1;obtain⟨cv,hm,hK⟩:=bh.1 g2;clear h g1 g2;subst hj;obtain⟨u,dO,cz⟩:=Bd (w:=w) ha hs (cells:=vs.toArray) ⟨by simpa using hl,fun i c hi=>by simpa using hc i c hi⟩ hr hm
   refine dI.pure hM (v:=u) ?_ hK cz;have h1:(0:Int)<=(kk:Int)/\(kk:Int)<(n:Int):=om;simp[Instr.index,asIntOf,run_underlying hu,h1,fq hs,aB,dO]
  .exact h.elim
 .exact h.elim
theorem qU(hM:aL ρ m w)(hE:bm ρ w a8 a.tmps){mx:Bool}{ts:Array TypeId}{ty:TypeId}{x y:Operand}{x' y':X}(hx:bt x=some x')(hy:bt y=some y')(h:step P (.ij mx [x',y']) a8 m K):dI P (do pure (Next.value (<-(if mx then Builtin.max_ ts ty #[a.eval x,a.eval y]else Builtin.min_ ts ty #[a.eval x,a.eval y])))) ρ m w K:=by
 have hd:=aR hE hx;have po:=aR hE hy;simp only[step]at h;generalize a.eval x=v at hd⊢;generalize a.eval y=u at po⊢;generalize x'.ev a8=c at hd h;generalize y'.ev a8=d at po h;split at h
 .rename_i k p;obtain⟨rfl,_⟩:=bS hd;split at h
  .rename_i k2 q;obtain⟨rfl,_⟩:=bS po;cases mx
   .refine dI.pure hM (v:= .int k (if q<p then q else p)) ?_ h (cA rfl)
    simp[Builtin.min_,Builtin.min2]
   .refine dI.pure hM (v:= .int k (if q>p then q else p)) ?_ h (cA rfl)
    simp[Builtin.max_,Builtin.max2]
  .exact h.elim
 .exact h.elim
theorem HX(hM:aL ρ m w)(hE:bm ρ w a8 a.tmps){s e e2:TypeId}{x:Operand}{x':X}(hs:P.underlying s=some (.slice e))(he:P.underlying e=some (.int .u8))(hx:bt x=some x')(h:step P (.Ur x') a8 m K):dI P (do pure (Next.value (<-convert s s (a.eval x)))) ρ m w K:=by
 have hd:=aR hE hx;simp only[step]at h;generalize a.eval x=v at hd⊢;generalize x'.ev a8=c at hd h;split at h
 .rename_i id e1 lo hi;obtain⟨bk,eY,g1⟩:=bh.1 h;rw[aZ]at eY;split at g1
  .rename_i esz rows;rcases cE.1 g1 with⟨aB,hK⟩|⟨_,g2⟩
   case inr=>exact g2.elim
   rw[ZM,abU]at aB;obtain⟨nV,aB⟩:=aB;have nV:=Z2 nV;have hid:id<m.length:=(Mh.1 eY).1;have RF:=hd;obtain⟨d0,d1,d2,d3,d4,ad,hv,ub⟩:=hd;obtain⟨r2,r3,r4,r5,HK⟩:=hM.bk id _ eY;have bq:0<(ρ.aV (.ar id)).cap:=by clear HK;omega
   obtain⟨cur,cj,h1,cw⟩:=HK bq;have sa:=ub (by clear HK;omega)
   obtain⟨ty,fr,lB,wY,jc,_⟩:=cj;have U1:=(aaK.1 lB).1;let U4:Nat×Nat:=if fr.1==fr.2 then(cur.size,cur.size+1)else(min fr.1 cur.size,max fr.2 (cur.size+1))
   let w':World:=w.freeze ⟨(ρ.aV (.ar id)).b,cur.size,none⟩ 1;have RT:w'.heap[(ρ.aV (.ar id)).b]? =some (.cells cur ty U4):=by simp[w',World.freeze,abN,lB,U4]
   have Bn:lS (esz=1) w' (ρ.aV (.ar id)).b cur:=by
    refine⟨ty,U4,RT,?_,fun i hi=>?_,.inl nV⟩
    .simp only[U4];split
     .simp
     .simp only;omega
    .simp only[U4];split
     .simp;omega
     .rename_i fc;have fc:fr.1≠fr.2:=by simpa using fc
      have h0:cur.size<=fr.1:=by
       rcases ZX fr.1 cur.size with q|q
       .have:=jc fr.1 q;simp at this;omega
       .exact q
      simp;omega
   have ht:kI w w' (ρ.aV (.ar id)).b:=⟨fun b hb=>by simp[w',World.freeze,abN,Ne.symm hb],by simp[w',World.freeze],by simp[w',World.freeze],by simp[w',World.freeze],by simp[w',World.freeze]⟩
   obtain⟨lU,hX⟩:=hM.RD (Dr:= .row esz rows) eY ⟨_,eY,aG,fun _=>bq⟩ ht (fun g=>⟨r2,r3,r4,r5,fun _=>⟨cur,Bn,h1,fun i cs j c hi hj=>by
    obtain⟨u,hu,cz⟩:=cw i cs j c hi hj;exact⟨u,hu,cz.cQ g (by rintro _ _ _ e;cases e;exact d0)⟩⟩⟩) (by
    rintro i' j' xf e ⟨es,Qx,Kp,mj,eC,kj⟩;rw[Wl hid]at mj;cases mj;exact⟨esz,rows,Kp,eY,eC,kj⟩)
   have jT:m.set id (.row esz rows)=m:=by
    apply abF;intro i;rw[abw];split
    .rename_i hi;subst hi
     first|rw[eY]|rw[if_pos hid,eY]
    .rfl
   rw[jT]at lU hX;refine⟨.value v,v,w',_,m,ρ,?_,.inl rfl,hK,lU,RF,hX⟩;have YE:w.shape? (ρ.aV (.ar id)).b=some (ty,cur.size):=by unfold World.shape?;rw[lB]
   rw[hv,sa];simp[convert,run_underlying hs,run_underlying he,markStringish,YE];rfl
  .exact g1.elim
 .exact h.elim
end
section
variable {P:Program} {ρ:bQ} {m:Mem} {w:World} {a8:List CV} {a:Act} {K:CV->Mem->Prop}
theorem bm.ext{ρ':bQ}{m':Mem}{w':World}{tmps:Array Value}(hM:aL ρ m w)(x:Ext ρ m w ρ' m' w')(hE:bm ρ w a8 tmps):bm ρ' w' a8 tmps:=
 ⟨hE.size,fun i c hi=>let⟨v,hv,hd⟩:=hE.k9 i c hi;⟨v,hv,cm.ext hM x hd⟩⟩
theorem bm.set{tmps:Array Value}{d:Nat}{c:CV}{v:Value}(hE:bm ρ w a8 tmps)(hd:cm ρ w c v):bm ρ w (a8.set d c) (tmps.setIfInBounds d v):=by
 refine⟨by simp[hE.size],fun i c' hi=>?_⟩
 by_cases h:d=i
 .subst h;have aB:d<a8.length:=by
   rcases ZX d a8.length with h|h
   .exact h
   .rw[abg (by simpa using h)]at hi;cases hi
  rw[Wl aB]at hi;cases hi;exact⟨v,by rw[ab8];simp[hE.size,aB],hd⟩
 .rw[ZZ h]at hi;obtain⟨u,hu,cz⟩:=hE.k9 i c' hi;exact⟨u,by rw[ab8,if_neg h];exact hu,cz⟩
theorem KG{d:Option Nat}{v:CV}{e:List CV}{K:List CV->Prop}:put d v e K=match d with|none=>K e|some d=>K (e.set d v):=by
 cases d with
 |none=>rfl
 |some d=>simp only[put,Uy,eW,bj]
theorem bm.put{d:Option Nat}{c:CV}{v:Value}(hE:bm ρ w a8 a.tmps)(hd:cm ρ w c v){K:List CV->Prop}(h:put d c a8 K):
  ∃fy,K fy/\bm ρ w fy (a.put d v).tmps/\(a.put d v).defers=a.defers:=by
 rw[KG]at h;cases d with
 |none=>exact⟨a8,h,hE,rfl⟩
 |some d=>exact⟨_,h,hE.set hd,rfl⟩
theorem DP{o:Oper}{i:I}(hl:uU P o=some i)(tF:∀f xs ts,o.op≠.call {callee:= .value f,args:=xs,argTypes:=ts})(hM:aL ρ m w)(hE:bm ρ w a8 a.tmps)(h:step P i a8 m K):dI P (execOp a.eval o) ρ m w K:=by
 unfold uU at hl;cases dR:o.op;all_goals rw[dR]at hl
 all_goals try(simp only at hl;cases hl;done)
 case move x=>
  simp only[SR,Q6]at hl;obtain⟨x',hx,hl⟩:=hl;cases hl;unfold execOp;rw[dR];exact dI.pure hM rfl h (aR hE hx)
 case assign x=>
  simp only[SR,Q6]at hl;obtain⟨x',hx,hl⟩:=hl;cases hl;unfold execOp;rw[dR];exact dI.pure hM rfl h (aR hE hx)
 case pick c x y=>
  simp only[SR,Q6]at hl;obtain⟨c',hc,x',hx,y',hy,hl⟩:=hl;cases hl;unfold execOp;rw[dR];exact DE hM hE hc hx hy h
 case alloc t=>
  simp only[SR,Q6]at hl;obtain⟨z,hz,hl⟩:=hl;cases hl;unfold execOp;rw[dR];exact A9 hM hz h
 case box t x=>
  simp only[SR,Q6]at hl;obtain⟨x',hx,hl⟩:=hl;cases hl;unfold execOp;rw[dR];exact HC hM hE hx h
 case build t ps=>
  simp only[SR,Q6]at hl;obtain⟨z,hz,hl⟩:=hl;unfold execOp;rw[dR];split at hl
  .rename_i fs hu;split at hl
   .rename_i fN;simp only[Q6]at hl;obtain⟨oR,hp,hl⟩:=hl;cases hl;exact tu hM hE hz (.inl ⟨fs,hu,fN,hp⟩) h
   .cases hl
  .rename_i n e hu;simp only[Q6]at hl;obtain⟨sz,hs,oR,hp,hl⟩:=hl;cases hl;exact tu hM hE hz (.inr ⟨n,e,sz,hu,hs,hp⟩) h
  .cases hl
 case buildSlice t n ps=>
  simp only[SR]at hl;unfold execOp;rw[dR];split at hl
  .rename_i e hu;simp only[Q6]at hl;obtain⟨z,hz,sz,hs,hl⟩:=hl;split at hl
   .rename_i hc;obtain⟨rfl,h2,h3⟩:=hc;simp only[Q6]at hl;obtain⟨oR,hp,hl⟩:=hl;cases hl;exact HH hM hE hu hz hs h2 h3 hp h
   .cases hl
  .cases hl
 case load t x=>
  simp only[SR,Q6]at hl;obtain⟨agg,ha,n,hs,x',hx,hl⟩:=hl;cases hl;unfold execOp;rw[dR];exact Dx hM hE ha hs hx h
 case store t p x=>
  simp only[SR,Q6]at hl;obtain⟨n,hs,hl⟩:=hl;split at hl
  .cases hl
  .rename_i hn;simp only[Q6]at hl;obtain⟨p',hp,x',hx,hl⟩:=hl;cases hl;unfold execOp;rw[dR];exact Bc hM hE hs hn hp hx h
 case fieldAddr t x k=>
  simp only[SR]at hl;unfold execOp;rw[dR];split at hl
  .rename_i fs hu;simp only[Q6]at hl;obtain⟨f,hf,n,hs,hl⟩:=hl;split at hl
   .cases hl
   .rename_i hn;simp only[Q6]at hl;obtain⟨x',hx,hl⟩:=hl;cases hl;exact Dy hM hE hu hf hs hn hx h
  .cases hl
 case field t x k=>
  simp only[SR]at hl;unfold execOp;rw[dR];split at hl
  .rename_i fs hu;simp only[Q6]at hl;obtain⟨f,hf,agg,ha,n,hs,x',hx,hl⟩:=hl;cases hl;exact HD hM hE hu hf ha hs hx h
  .cases hl
 case indexAddr t x k=>
  simp only[SR]at hl;unfold execOp;rw[dR];split at hl
  .rename_i e hu;simp only[Q6]at hl;obtain⟨n,hs,x',hx,k',hk,hl⟩:=hl;cases hl;exact HE hM hE hu hs hx hk h
  .rename_i len e hu;simp only[Q6]at hl;obtain⟨n,hs,x',hx,k',hk,hl⟩:=hl;cases hl;exact Dz hM hE hu hs hx hk h
  .cases hl
 case index t x k=>
  simp only[SR]at hl;unfold execOp;rw[dR];split at hl
  .rename_i hu;simp only[Q6]at hl;obtain⟨x',hx,k',hk,hl⟩:=hl;cases hl;exact DA hM hE hu hx hk h
  .rename_i n e hu;simp only[Q6]at hl;obtain⟨agg,ha,sz,hs,x',hx,k',hk,hl⟩:=hl;cases hl;exact DO hM hE hu ha hs hx hk h
  .cases hl
 case binOp op t x y yt=>
  simp only[SR]at hl;unfold execOp;rw[dR];split at hl
  .simp only[Q6]at hl;obtain⟨x',hx,y',hy,hl⟩:=hl;cases hl;exact xP hM hE hx hy h
  .simp only[Q6]at hl;obtain⟨x',hx,y',hy,hl⟩:=hl;cases hl;exact xP hM hE hx hy h
  .rename_i e hu;split at hl
   .simp only[Q6]at hl;obtain⟨x',hx,hl⟩:=hl;cases hl;exact ve (neg:=false) hM hE hu hx h
   .simp only[Q6]at hl;obtain⟨x',hx,hl⟩:=hl;cases hl;exact ve (neg:=true) hM hE hu hx h
   .cases hl
  .rename_i hu;split at hl
   .simp only[Q6]at hl;obtain⟨x',hx,y',hy,hl⟩:=hl;cases hl;exact xQ (neg:=false) hM hE hu hx hy h
   .simp only[Q6]at hl;obtain⟨x',hx,y',hy,hl⟩:=hl;cases hl;exact xQ (neg:=true) hM hE hu hx hy h
   .cases hl
  .rename_i n e hu;split at hl
   .rename_i kk hg YF hs;simp only[Q6]at hl;obtain⟨x',hx,y',hy,hl⟩:=hl;cases hl;exact u4 (neg:=false) hM hE hu hg YF hs hx hy h
   .rename_i kk hg YF hs;simp only[Q6]at hl;obtain⟨x',hx,y',hy,hl⟩:=hl;cases hl;exact u4 (neg:=true) hM hE hu hg YF hs hx hy h
   .cases hl
  .rename_i fs hu;split at hl
   .rename_i ks hg hk;simp only[Q6]at hl;obtain⟨x',hx,y',hy,hl⟩:=hl;cases hl;exact xR (neg:=false) hM hE hu hg hk hx hy h
   .rename_i ks hg hk;simp only[Q6]at hl;obtain⟨x',hx,y',hy,hl⟩:=hl;cases hl;exact xR (neg:=true) hM hE hu hg hk hx hy h
   .cases hl
  .cases hl
 case unOp op t x=>
  simp only[SR,Q6]at hl;obtain⟨x',hx,hl⟩:=hl;cases hl;unfold execOp;rw[dR];exact Ks hM hE hx h
 case convert s d x=>
  simp only[SR]at hl;unfold execOp;rw[dR];split at hl
  .rename_i hs hd;simp only[Q6]at hl;obtain⟨x',hx,hl⟩:=hl;cases hl;exact DB hM hE hs hd hx h
  .rename_i hs hd;simp only[Q6]at hl;obtain⟨x',hx,hl⟩:=hl;cases hl;exact HF hM hE hs hd hx h
  .rename_i e hs hd;split at hl
   .rename_i he;simp only[Q6]at hl;obtain⟨x',hx,hl⟩:=hl;cases hl;exact HM hM hE hs he hd hx h
   .cases hl
  .rename_i e hs hd;split at hl
   .rename_i he;simp only[Q6]at hl;obtain⟨x',hx,hl⟩:=hl;cases hl;exact HN hM hE hs hd he hx h
   .cases hl
  .rename_i e0 e hs hd;split at hl
   .rename_i YG he;simp only[Q6]at hl;obtain⟨x',hx,hl⟩:=hl;cases hl;have YG:s=d:=by simpa using YG
    subst YG;rw[hs]at hd;cases hd;exact HX (e2:=e0) hM hE hs he hx h
   .cases hl
  .cases hl
 case range t x=>
  dsimp only at hl;unfold execOp;rw[dR];split at hl
  .rename_i kt vt hu;simp only[SR,Q6]at hl;obtain⟨x',hx,hl⟩:=hl;cases hl;exact HQ hM hE hu hx h
  .cases hl
 case next it b=>
  cases b with
  |false=>
   simp only[SR,Q6]at hl;unfold execOp;rw[dR];obtain⟨x',hx,hl⟩:=hl;cases hl;exact HS hM hE hx h
  |true=>cases hl
 case entry it=>
  simp only[SR,Q6]at hl;unfold execOp;rw[dR];obtain⟨x',hx,hl⟩:=hl;cases hl;exact HT hM hE hx h
 case makeMap t r=>
  dsimp only at hl;unfold execOp;rw[dR];split at hl
  .cases hl;exact tE hM (.inl rfl) h
  .rename_i k n kt et hu;cases hl;exact tE hM (.inr ⟨k,n,kt,et,rfl,hu⟩) h
  .cases hl
 case makeSlice t l c=>
  simp only[SR]at hl;unfold execOp;rw[dR];split at hl
  .rename_i e hu;simp only[Q6]at hl;obtain⟨i,hi,z,hz,hl⟩:=hl;split at hl
   .rename_i hc;obtain⟨h1,h2,h3⟩:=hc;simp only[Q6]at hl;obtain⟨l',Bi,c',qH,hl⟩:=hl;cases hl;exact xj hM hE hu hi hz h1 h2 h3 Bi qH h
   .cases hl
  .cases hl
 case lookup t x k b=>
  simp only[SR]at hl;unfold execOp;rw[dR];split at hl
  .rename_i kt vt hu;simp only[Q6]at hl;obtain⟨z,hz,kk,hk,x',hx,k',Oq,hl⟩:=hl;cases hl;exact DL hM hE hu hz hk hx Oq h
  .cases hl
 case mapUpdate t x k v=>
  simp only[SR]at hl;unfold execOp;rw[dR];split at hl
  .rename_i kt vt hu;simp only[Q6]at hl;obtain⟨kk,hk,x',hx,k',Oq,v',hv,hl⟩:=hl;cases hl;exact vg hM hE hu hk hx Oq hv h
  .cases hl
 case insert t x k v=>
  simp only[SR]at hl;unfold execOp;rw[dR];split at hl
  .rename_i kt vt hu;simp only[Q6]at hl;obtain⟨kk,hk,x',hx,k',Oq,v',hv,hl⟩:=hl;cases hl;exact vg hM hE hu hk hx Oq hv h
  .cases hl
 case makeFunc fn fst ei=>
  unfold execOp;rw[dR];cases fn<;>simp only at hl<;>try(cases hl;done)
  rename_i f;split at hl
  .rename_i hz;simp only[SR,Q6]at hl;obtain⟨x',hx,hl⟩:=hl;cases hl;have hf:fst= #[]:=Array.eq_empty_of_size_eq_zero hz;subst hf;exact Kt hM hE hx h
  .cases hl
 case extract x k=>
  simp only[SR,Q6]at hl;obtain⟨x',hx,hl⟩:=hl;cases hl;unfold execOp;rw[dR];exact HG hM hE hx h
 case slice t x lo hi mx=>
  simp only[SR]at hl;unfold execOp;rw[dR];split at hl
  .rename_i e hu;simp only[Q6]at hl;obtain⟨n,hs,x',hx,DK,ic,eu,zj,Yx,NW,hl⟩:=hl;cases hl;exact HL hM hE hu hs hx ic zj NW h
  .rename_i hu;cases mx<;>simp only at hl
   .simp only[Q6]at hl;obtain⟨x',hx,DK,ic,eu,zj,hl⟩:=hl;cases hl;exact DJ hM hE hu hx ic zj h
   .cases hl
  .cases hl
 case nilCheck x=>
  simp only[SR,Q6]at hl;obtain⟨x',hx,hl⟩:=hl;cases hl;exact DD hM hE dR hx h
 case call c=>
  obtain⟨callee,args,argTypes⟩:=c;cases callee with
  |value f=>
   exact absurd dR (tF _ _ _)
  |invoke r n=>simp only at hl;cases hl
  |builtin b=>
   cases b<;>simp only at hl<;>try(cases hl;done)
   case len=>
    simp only[SR]at hl;split at hl
    .rename_i x t e7 DQ;have e1:args= #[x]:=ab4 (by simpa using e7)
     have e2:argTypes= #[t]:=ab4 (by simpa using DQ)
     subst e1 e2;unfold execOp;rw[dR];split at hl
     .rename_i hu;simp only[Q6]at hl;obtain⟨x',hx,hl⟩:=hl;cases hl;have:=rX (ty:=o.type) hM hE (.inl ⟨rfl,hu⟩) hx h;unfold dI at this⊢;simpa[resolve,invoke,builtin]using this
     .rename_i e hu;simp only[Q6]at hl;obtain⟨x',hx,hl⟩:=hl;cases hl;have:=rX (ty:=o.type) hM hE (.inr (.inl ⟨rfl,e,hu⟩)) hx h;unfold dI at this⊢;simpa[resolve,invoke,builtin]using this
     .rename_i kt e hu;simp only[Q6]at hl;obtain⟨x',hx,hl⟩:=hl;cases hl;have:=rX (ty:=o.type) hM hE (.inr (.inr ⟨rfl,kt,e,hu⟩)) hx h;unfold dI at this⊢;simpa[resolve,invoke,builtin]using this
     .cases hl
    .cases hl
   case append=>
    simp only[SR]at hl;split at hl
    .rename_i x y t t2 e7 DQ;have e1:args= #[x,y]:=ab4 (by simpa using e7)
     have e2:argTypes= #[t,t2]:=ab4 (by simpa using DQ)
     subst e1 e2;unfold execOp;rw[dR];split at hl
     .rename_i e e2 hu UC;simp only[Q6]at hl;obtain⟨i,hi,z,hz,hl⟩:=hl;split at hl
      .rename_i hc;obtain⟨h1,h2,h3⟩:=hc;simp only[Q6]at hl;obtain⟨x',hx,y',hy,hl⟩:=hl;cases hl;have:=HU (ty:=o.type) hM hE hu UC hi hz h1 h2 h3 hx hy h;unfold dI at this⊢;simpa[resolve,invoke,builtin]using this
      .cases hl
     .cases hl
    .cases hl
   case min=>
    simp only[SR]at hl;split at hl
    .rename_i x y e7;have e1:args= #[x,y]:=ab4 (by simpa using e7)
     subst e1;unfold execOp;rw[dR];simp only[Q6]at hl;obtain⟨x',hx,y',hy,hl⟩:=hl;cases hl;have:=qU (mx:=false) (ts:=argTypes) (ty:=o.type) hM hE hx hy h;unfold dI at this⊢;simpa[resolve,invoke,builtin]using this
    .cases hl
   case max=>
    simp only[SR]at hl;split at hl
    .rename_i x y e7;have e1:args= #[x,y]:=ab4 (by simpa using e7)
     subst e1;unfold execOp;rw[dR];simp only[Q6]at hl;obtain⟨x',hx,y',hy,hl⟩:=hl;cases hl;have:=qU (mx:=true) (ts:=argTypes) (ty:=o.type) hM hE hx hy h;unfold dI at this⊢;simpa[resolve,invoke,builtin]using this
    .cases hl
   case copy=>
    simp only[SR]at hl;split at hl
    .rename_i x y t t2 e7 DQ;have e1:args= #[x,y]:=ab4 (by simpa using e7)
     have e2:argTypes= #[t,t2]:=ab4 (by simpa using DQ)
     subst e1 e2;unfold execOp;rw[dR];split at hl
     .rename_i e hu;simp only[Q6]at hl;obtain⟨i,hi,z,hz,hl⟩:=hl;split at hl
      .rename_i hc;simp only[Q6]at hl;obtain⟨x',hx,y',hy,hl⟩:=hl;cases hl;have:=DN (ty:=o.type) (t2:=t2) hM hE hu hi hz hc hx hy h;unfold dI at this⊢;simpa[resolve,invoke,builtin]using this
      .cases hl
     .cases hl
    .cases hl
   case clear=>
    simp only[SR]at hl;split at hl
    .rename_i x t e7 DQ;have e1:args= #[x]:=ab4 (by simpa using e7)
     have e2:argTypes= #[t]:=ab4 (by simpa using DQ)
     subst e1 e2;unfold execOp;rw[dR];split at hl
     .rename_i e hu;simp only[Q6]at hl;obtain⟨i,hi,z,hz,hl⟩:=hl;split at hl
      .rename_i hc;simp only[Q6]at hl;obtain⟨x',hx,hl⟩:=hl;cases hl;have:=HV (ty:=o.type) hM hE hu hi hz hc hx h;unfold dI at this⊢;simpa[resolve,invoke,builtin]using this
      .cases hl
     .cases hl
    .cases hl
end
section
variable {P:Program}
def Bo:Exit->Option Ex
 | .normal=>some .normal
 | .exit id=>some (.exit id)
 | .ret=>some .ret
 |_=>none
def DR(N:Nat)(ρ:bQ)(w:World)(ds:List Deferred):Prop:=
 ∃Ds:List Nat,ds=Ds.map (fun D=>{target:= .collected D,args:= #[]})/\Ds.Nodup/\∀D,D∈Ds->N<=D/\ρ.S D/\w.heap[D]? =some (.deferred (some []))
theorem DR.nil{N:Nat}{ρ:bQ}{w:World}:DR N ρ w []:=⟨[],rfl,List.nodup_nil,aG⟩
theorem DR.ext{N:Nat}{ρ ρ':bQ}{m m':Mem}{w w':World}{ds:List Deferred}(hM:aL ρ m w)(x:Ext ρ m w ρ' m' w')(h:DR N ρ w ds):DR N ρ' w' ds:=by
 obtain⟨Ds,h1,h2,h3⟩:=h;refine⟨Ds,h1,h2,fun D hD=>?_⟩
 obtain⟨g1,g2,g3⟩:=h3 D hD;exact⟨g1,x.S D g2,(x.frame D (hM.S D g2) fun k hk e=>(hM.aQ k hk).2 (e▸g2)).trans g3⟩
theorem DR.s{N:Nat}{ρ ρ':bQ}{w:World}{ds:List Deferred}(hS:∀b,ρ.S b->ρ'.S b)(h:DR N ρ w ds):DR N ρ' w ds:=by obtain⟨Ds,h1,h2,h3⟩:=h;exact⟨Ds,h1,h2,fun D hD=>⟨(h3 D hD).1,hS D (h3 D hD).2.1,(h3 D hD).2.2⟩⟩
structure Inv(N:Nat)(ρ0:bQ)(m0:Mem)(w0:World)(st:St)(ρ:bQ)(a:Act)(w:World):Prop where
 ext:Ext ρ0 m0 w0 ρ st.mem w
 mem:aL ρ st.mem w
 a8:bm ρ w st.a8 a.tmps
 defers:DR N ρ w a.defers
 hN:N<=w0.heap.size
 n0:m0.length<=st.mem.length
def zk(N:Nat)(ρ0:bQ)(m0:Mem)(w0:World)(K:Ex->St->Prop)(e:Exit)(a:Act)(w:World):Prop:=
 ∃ex st ρ,Bo e=some ex/\K ex st/\Inv N ρ0 m0 w0 st ρ a w
variable {N:Nat} {ρ0:bQ} {m0:Mem} {w0:World}
theorem Inv.step{a8:List CV}{m m':Mem}{ρ ρ':bQ}{a:Act}{w w':World}{d:Option Nat}{c:CV}{v:Value}(h:Inv N ρ0 m0 w0 ⟨a8,m⟩ ρ a w)(hM:aL ρ' m' w')(hd:cm ρ' w' c v)(hx:Ext ρ m w ρ' m' w'){K:List CV->Prop}(hp:put d c a8 K):
  ∃fy,K fy/\Inv N ρ0 m0 w0 ⟨fy,m'⟩ ρ' (a.put d v) w':=by
 obtain⟨fy,hK,hE,hdf⟩:=(h.a8.ext h.mem hx:bm ρ' w' a8 a.tmps).put hd hp;refine⟨fy,hK,h.ext.trans hx,hM,hE,hdf▸h.defers.ext h.mem hx,h.hN,?_⟩;have h1:=h.n0;have h2:=h.mem.n;have h3:=hM.n;have h4:=hx.n;simp only at h1 h2⊢;omega
theorem Bp{o:Oper}{i:I}{a8:List CV}{m:Mem}{ρ:bQ}{a:Act}{w:World}{K:List CV->Mem->Prop}{next:Act->World->Prop}{Q:Exit->Act->World->Prop}(hl:rT P o=some i)(h:Inv N ρ0 m0 w0 ⟨a8,m⟩ ρ a w)(hs:step P i a8 m fun v m'=>put o.dst v a8 fun e'=>K e' m')(hn:∀fy m' ρ' a' w',K fy m'->Inv N ρ0 m0 w0 ⟨fy,m'⟩ ρ' a' w'->next a' w'):o.wp P a w next Q:=by
 rcases Dm hl with hl|rfl
 case inr=>rw[Od]at hs;exact hs.elim
 by_cases hc:∃f xs ts,o.op= .call {callee:= .value f,args:=xs,argTypes:=ts}
 .obtain⟨f,xs,ts,dR⟩:=hc;have UZ:∃f' F9,i= .call f' F9/\bt f=some f'/\tk xs.toList=some F9:=by unfold uU at hl;rw[dR]at hl;simp only[SR,Q6]at hl;obtain⟨f1,hf,xs1,hx,hl⟩:=hl;cases hl;exact⟨f1,xs1,rfl,hf,hx⟩
  obtain⟨f',F9,rfl,hf,hx⟩:=UZ;have hd:=aR h.a8 hf;simp only[step]at hs;split at hs
  .rename_i g ei YH;rw[YH]at hd;obtain⟨KH,hv⟩:=hd;obtain⟨⟨fn,YI,Qy,Gg⟩,tF⟩:=hs;obtain⟨e1,e2⟩:=rW h.a8 hx;simp only[b9,u3]at tF;have hb:fn.body≠none:=by intro e;rw[e]at Qy;cases Qy
   have Qz:fn.name≠ "runtime.NumGoroutine" :=by intro e;rw[e]at Gg;simp at Gg
   have dO:(execOp a.eval o).run P w= .ok (.enter g (xs.map a.eval++(ei.map fun id=>Value.pointer (some ⟨(ρ.aV (.ar id)).b,(ρ.aV (.ar id)).aA,none⟩)).toArray)) w:=by unfold execOp;rw[dR];simp[resolve,hv,Deferred.ofValue,invoke,callFunc,YI,Qz,hb]
   unfold Oper.wp;rw[dO,Oper.upon_enter];have zl:=tF ρ w (xs.toList.map a.eval++ei.map fun id=>Value.pointer (some ⟨(ρ.aV (.ar id)).b,(ρ.aV (.ar id)).aA,none⟩)) h.mem (by simp[e1]) (fun i c hi=>by
    rcases ZX i (FW a8 F9).length with aB|ew
    .rw[ZY aB]at hi;obtain⟨v,zg,C5⟩:=e2 i c hi;exact⟨v,by rw[ZY (by simpa[e1]using aB)];exact zg,C5⟩
    .rw[ZW ew]at hi;rw[ZW (by simpa[e1]using ew)]
     rw[Q8]at hi;cases hk:ei[i-(FW a8 F9).length]? with
     |none=>rw[hk]at hi;cases hi
     |some id=>
      rw[hk]at hi;simp only[aaG,aag]at hi;subst hi;refine⟨_,by rw[Nq,<-e1,Q8,hk];rfl,KH id (Rq hk),aG⟩)
   have e7:(xs.toList.map a.eval++ei.map fun id=>Value.pointer (some ⟨(ρ.aV (.ar id)).b,(ρ.aV (.ar id)).aA,none⟩)).toArray=
     xs.map a.eval++(ei.map fun id=>Value.pointer (some ⟨(ρ.aV (.ar id)).b,(ρ.aV (.ar id)).aA,none⟩)).toArray:=by
    apply ab4;simp
   rw[e7]at zl;refine zl.mono fun e w' hR=>?_
   obtain⟨v,r,m',ρ',rfl,hK,lU,zm,uc⟩:=hR;obtain⟨fy,JS,hI⟩:=h.step (d:=o.dst) lU zm uc hK;exact hn fy m' ρ' _ w' JS hI
  .exact hs.elim
 .obtain⟨nx,v,w',cv,m',ρ',hr,U5,hK,lU,zm,uc⟩:=DP hl (fun f xs ts e=>hc ⟨f,xs,ts,e⟩) h.mem h.a8 hs
  obtain⟨fy,JS,hI⟩:=h.step (d:=o.dst) lU zm uc hK;unfold Oper.wp;rw[hr];rcases U5 with rfl|⟨rfl,rfl⟩
  .exact hn fy m' ρ' _ w' JS hI
  .exact hn fy m' ρ' _ w' JS hI
theorem sf{ops:Array Oper}:∀{l:List Oper}{b7:List LO},me P ops l=some b7->∀(o:Oper)(r:List Oper),l=o::r->∃lo lr,b7=lo::lr/\uV P ops o=some lo/\me P ops r=some lr:=by rintro l b7 h o r rfl;simp only[me,SR,Q6]at h;obtain⟨lo,h1,lr,h2,h3⟩:=h;cases h3;exact⟨lo,lr,rfl,h1,h2⟩
theorem zn{a8:List CV}{s:Nat}{t:Bool}(h:jQ a8 s=ax t):bb a8 s (ax t)=a8:=by
 rw[bj];rw[lv]at h;cases hg:a8[s]? with
 |none=>rw[hg]at h;cases h
 |some c=>
  rw[hg]at h;simp only[abI]at h;subst h;exact abF fun i=>by
   by_cases hi:s=i
   .subst hi;rw[Wl (Mh.1 hg).1,hg]
   .rw[ZZ hi]
theorem vm{ops:Array Oper}{Q:Exit->Act->World->Prop}{K:List CV->Mem->Prop}(hQ:∀a8 m ρ a w,K a8 m->Inv N ρ0 m0 w0 ⟨a8,m⟩ ρ a w->Q .normal a w):
  ∀(l:List Oper)(k:Nat)(b7:List LO)(a8:List CV)(m:Mem)(ρ:bQ)(a:Act)(w:World),ops.toList.drop k=l->me P ops l=some b7->Hy P b7 K a8 m->Inv N ρ0 m0 w0 ⟨a8,m⟩ ρ a w->
   wpOps P ops Q (List.range' k l.length) a w
 | [],k,b7,a8,m,ρ,a,w,hl,jU,h,hI=>by simp[me]at jU;subst jU;exact hQ a8 m ρ a w h hI
 |o::r,k,b7,a8,m,ρ,a,w,hl,jU,h,hI=>by
  obtain⟨lo,lr,rfl,h1,h2⟩:=sf jU o r rfl;have jJ:ops[k]? =some o:=by
   have:(ops.toList.drop k)[0]? =some o:=by rw[hl];rfl
   simpa using this
  have hr:ops.toList.drop (k+1)=r:=by rw[<-List.tail_drop,hl];rfl
  have ih:=fun a8 m ρ a w=>vm hQ r (k+1) lr a8 m ρ a w hr h2
  simp only[uV,SR,Q6]at h1;obtain⟨i,hi,g,hg,h1⟩:=h1;cases h1;simp only[aar,acR,wpOps,jJ];have skip:∀(e:List CV),Inv N ρ0 m0 w0 ⟨e,m⟩ ρ a w->(put o.dst .undef e fun e'=>Hy P lr K e' m)->wpOps P ops Q (List.range' (k+1) r.length) (a.put o.dst Go.undef) w:=fun e XE hp=>by obtain⟨fy,JS,pf⟩:=XE.step (d:=o.dst) (c:= .undef) (v:=Go.undef) XE.mem rfl (Ext.refl _ _ _) hp;exact ih _ _ _ _ _ JS pf
  have exec:∀(e:List CV),Inv N ρ0 m0 w0 ⟨e,m⟩ ρ a w->(step P i e m fun v m'=>put o.dst v e fun e'=>Hy P lr K e' m')->o.wp P a w (wpOps P ops Q (List.range' (k+1) r.length)) Q:=fun e XE hp=>
   Bp hi XE hp fun fy m' ρ' a' w' JS pf=>ih _ _ _ _ _ JS pf
  cases KJ:o.guard with
  |none=>
   rw[KJ]at hg;simp[Kg]at hg;subst hg;have hw:Region.wanted o (yielded ops a.tmps)=true:=by simp[Region.wanted,KJ]
   rw[if_pos hw];simp only[xM,F4,eW]at h;exact .inl (exec a8 hI h)
  |some jb=>
   obtain⟨j,jA⟩:=jb;rw[KJ]at hg;simp only[Kg,SR,Q6]at hg;obtain⟨oj,RU,s,hs,hg⟩:=hg;cases hg;have hy:yielded ops a.tmps j=match a.tmps[s]? with|some (.bool b)=>some b|_=>none:=by simp[yielded,RU,hs];rfl
   simp only[xM,F4]at h;split at h
   .rename_i ew;have cw:=hI.a8.get s;rw[ew]at cw;have hu:a.tmps[s]? =some Go.undef\/a.tmps[s]? =none:=by
     simp only[cm,abP]at cw;cases ht:a.tmps[s]? with
     |none=>exact .inr rfl
     |some v=>rw[ht]at cw;simp at cw;exact .inl (by rw[cw])
    have hw:Region.wanted o (yielded ops a.tmps)=false:=by
     simp only[Region.wanted,KJ,hy];rcases hu with hu|hu<;>rw[hu]<;>rfl
    rw[if_neg (by simp[hw])]
    exact skip a8 hI h
   .rename_i t ew;have cw:=hI.a8.get s;rw[ew]at cw;have ht:a.tmps[s]? =some (.bool t):=by
     have:=(bS cw).1;rw[abP]at this;cases ht:a.tmps[s]? with
     |none=>rw[ht]at this;cases this
     |some v=>rw[ht]at this;simp at this;rw[this]
    have hw:Region.wanted o (yielded ops a.tmps)=(t==jA):=by simp[Region.wanted,KJ,hy,ht]
    have qV:∀b,t=b->bb a8 s (ax b)=a8:=fun b hb=>by subst hb;exact zn ew
    rcases cE.1 h with⟨rfl,h⟩|⟨rfl,h⟩
    .simp only[eW,qV true rfl]at h;cases jA with
     |true=>rw[if_pos (by simp[hw])];exact .inl (exec a8 hI h)
     |false=>rw[if_neg (by simp[hw])];exact skip a8 hI h
    .simp only[eW,qV false rfl]at h;cases jA with
     |false=>rw[if_pos (by simp[hw])];exact .inl (exec a8 hI h)
     |true=>rw[if_neg (by simp[hw])];exact skip a8 hI h
   .exact h.elim
theorem bC.dA{ρ:bQ}{w:World}{pos:Option (Nat×Nat×Nat)}{c:CC}{v:Value}(h:bC ρ w pos c v):c.dA ρ.n:=by
 cases c<;>simp only[bC]at h<;>simp only[CC.dA]
 case ptr=>exact h.1
 case mM=>exact h.1
 case row=>exact h.1
 case map=>exact h.1
 case fn=>exact h.1
theorem dP.dA{ρ:bQ}{w:World}{r:RV}{v:Value}(h:dP ρ w r v):r.dA ρ.n:=by
 cases r with
 |one c=>exact bC.dA h
 |agg cs=>
  obtain⟨vs,_,_,hc⟩:=h;intro c qH;obtain⟨i,hi⟩:=Xf qH;obtain⟨u,_,hd⟩:=hc i c hi;exact hd.dA
theorem cm.dA{ρ:bQ}{w:World}{c:CV}{v:Value}(h:cm ρ w c v):c.dA ρ.n:=by
 cases c with
 |aq=>trivial
 |undef=>trivial
 |rv r=>exact dP.dA h
 |bK rs=>
  obtain⟨vs,_,_,hc⟩:=h;intro r hr;obtain⟨i,hi⟩:=Xf hr;obtain⟨u,_,hd⟩:=hc i r hi;exact hd.dA
theorem d8.dA{ρ:bQ}{w:World}{id:Nat}{b:Bk}(h:d8 ρ w id b):b.dA ρ.n:=by
 cases b with
 |aW=>trivial
 |var cs=>
  obtain⟨cur,_,hc⟩:=h;intro c qH;obtain⟨i,hi⟩:=Xf qH;obtain⟨u,_,hd⟩:=hc i c hi;exact hd.dA
 |row esz elems=>
  obtain⟨h1,h2,h3,h4,h5⟩:=h;intro cs eJ c qH;obtain⟨i,hi⟩:=Xf eJ;obtain⟨j,hj⟩:=Xf qH;have aB:=(Mh.1 hi).1;obtain⟨cur,_,_,hc⟩:=h5 om;obtain⟨u,_,hd⟩:=hc i cs j c hi hj;exact hd.dA
 |mp es=>
  obtain⟨c6,ck,_,_,hc⟩:=h;intro e he;obtain⟨i,hi⟩:=Xf he;obtain⟨e',_,_,hd⟩:=hc i e hi;exact hd.dA
 |it cur left=>trivial
theorem mf.get:∀{m m':Mem},mf m m'->∀(i:Nat)b',m'[i]? =some b'->b'= .aW\/m[i]? =some b'
 |_,_,.nil m,i,b',h=>by simp at h
 |_,_,.cons (b:=b) (b':=b1) (m:=m) (m':=m') h hm,i,b',hi=>by
  cases i with
  |zero=>simp at hi;subst hi;rcases h with rfl|rfl<;>simp
  |succ i=>simpa using hm.get i b' (by simpa using hi)
theorem Kk.YJ{n0:Nat}{s s':St}{ρ:bQ}{w:World}(h:Kk n0 s s')(hM:aL ρ s.mem w):∀b,b∈s'.mem->b.dA s'.mem.length:=by
 rcases h.jG with he|hi
 .intro b hb;obtain⟨i,hi⟩:=Xf hb;rcases h.mem.get i b hi with rfl|r9
  .trivial
  .have:=(hM.bk i b r9).dA;rw[he,<-hM.n];exact this
 .exact hi
theorem Kk.view{n0:Nat}{s s':St}(hw:Kk n0 s s'):View n0 s s':=by
 refine⟨hw.n0,hw.len,fun ρ w lF=>?_⟩
 obtain⟨hM,cG⟩:=lF.Kl hw.mem (hw.YJ lF);refine⟨{ρ with n:=s'.mem.length},hM,⟨fun _ _=>rfl,fun _ h=>h,fun _ h=>.inl h,fun k hk=>⟨k,cG k hk,rfl⟩⟩,fun i c hi=>?_⟩
 rcases hw.a8 i c hi with rfl|⟨eu,Km⟩
 .have aB:i<s.a8.length:=by rw[<-hw.len];exact(Mh.1 hi).1
  exact⟨_,IE aB,fun _ _=>trivial⟩
 .refine⟨c,eu,fun v hd=>?_⟩
  have U6:c.dA s'.mem.length:=by
   rcases Km with he|Km
   .rw[he,<-lF.n];exact hd.dA
   .exact Km
  exact hd.cut U6
theorem Inv.Kl{st iS:St}{ρ:bQ}{a:Act}{w:World}(hI:Inv N ρ0 m0 w0 st ρ a w)(lF:ρ0.n=m0.length)(hw:View m0.length st iS):∃ρ',Inv N ρ0 m0 w0 iS ρ' a w:=by
 obtain⟨ρ',hM,hc,hd⟩:=hw.go ρ w hI.mem;refine⟨ρ',⟨by rw[lF,hM.n];exact hw.hn,fun id hid=>(hc.aV id (by rw[<-lF];exact hid)).trans (hI.ext.aV id hid),fun b hb=>hc.S b (hI.ext.S b hb),fun b hb=>?_,fun k hk=>?_,hI.ext.frame,hI.ext.size,hI.ext.os,hI.ext.tape,hI.ext.output⟩,hM,?_,hI.defers.s hc.S,hI.hN,hw.hn⟩
 .rcases hc.S' b hb with h|⟨k,hk,rfl⟩
  .exact hI.ext.S' b h
  .exact .inr (hI.ext.aQ k hk)
 .obtain⟨k0,h0,e0⟩:=hc.aQ k hk;rw[<-e0];exact hI.ext.aQ k0 h0
 .refine⟨hI.a8.size.trans hw.len.symm,fun i c hi=>?_⟩
  obtain⟨c0,uy,HY⟩:=hd i c hi;obtain⟨v,hv,uA⟩:=hI.a8.k9 i c0 uy;exact⟨v,hv,HY v uA⟩
end
section
variable {P:Program}
theorem au.mono{f:Nat}{args:List CV}{m:Mem}{K K':CV->Mem->Prop}(h:au P f args m K)(hK:∀v m',K v m'->K' v m'):au P f args m K':=
 ⟨h.1,fun ρ w vs hM hl hd=>(h.2 ρ w vs hM hl hd).mono fun e w'⟨v,r,m',ρ',he,hk,qC⟩=>⟨v,r,m',ρ',he,hK _ _ hk,qC⟩⟩
theorem DT{i:I}(hq:rU i=true){e:List CV}{m:Mem}{K:CV->Mem->Prop}(h:step P i e m K):
  ∃v,K v m/\∀K':CV->Mem->Prop,K' v m->step P i e m K':=by
 cases i<;>simp[rU,xK]at hq
 case load agg n a=>
  simp only[step,uR,bh,cE]at h⊢;repeat' split at h
  all_goals(try exact h.elim)
  all_goals grind
 all_goals simp only[step,bh,cE]at h⊢
 all_goals(repeat' split at h)
 all_goals(try exact h.elim)
 all_goals(try(exact⟨_,h,fun _ h=>h⟩))
 all_goals grind
theorem HZ{i:I}(hq:xK i=true){e:List CV}{m:Mem}{K:CV->Mem->Prop}(h:step P i e m K):
  ∃v,K v m/\∀(m':Mem)(K':CV->Mem->Prop),K' v m'->step P i e m' K':=by
 cases i<;>simp[xK]at hq
 all_goals simp only[step,bh,cE]at h⊢
 all_goals(repeat' split at h)
 all_goals(try exact h.elim)
 all_goals(try(exact⟨_,h,fun _ _ h=>h⟩))
 all_goals grind
theorem x5{i:I}{e:List CV}{m:Mem}{K K':CV->Mem->Prop}(h:step P i e m K)(hK:∀v m',K v m'->K' v m'):step P i e m K':=by
 cases i
 case call f args=>
  simp only[step]at h⊢;split at h
  .exact h.mono hK
  .exact h.elim
 case load agg n a=>
  simp only[step,uR,bh,cE]at h⊢;repeat' split at h
  all_goals(try exact h.elim)
  all_goals grind
 case len k x=>
  simp only[step,bh,cE]at h⊢;repeat' split at h
  all_goals(try exact h.elim)
  all_goals grind
 all_goals simp only[step,bh,cE,ik,eW]at h⊢
 all_goals(try exact hK _ _ h)
 all_goals(try(repeat' split at h))
 all_goals(try exact h.elim)
 all_goals(try exact hK _ _ h)
 all_goals grind
theorem sh{e e':List CV}:∀{xs:List X},(∀x,x∈xs->x.ev e=x.ev e')->FW e xs=FW e' xs
 | [],_=>rfl
 |x::r,h=>by simp only[FW];rw[h x aG,sh fun y hy=>h y (by simp[hy])]
theorem tG{e e':List CV}:∀{ps:List (Nat×Nat×X)}{z:List CC},(∀x,x∈ps.map (fun p=>p.2.2)->x.ev e=x.ev e')->nL e z ps=nL e' z ps
 | [],_,_=>rfl
 |(o,s,x)::r,z,h=>by
  simp only[nL];rw[h x aG];have ih:=fun z=>tG (ps:=r) (z:=z) fun y hy=>h y (by simp at hy⊢;exact .inr hy)
  simp only[ih]
theorem tH{e e':List CV}{esz:Nat}:∀{ps:List (Nat×X)}{z:List (List CC)},(∀x,x∈ps.map (fun p=>p.2)->x.ev e=x.ev e')->ti e esz z ps=ti e' esz z ps
 | [],_,_=>rfl
 |(i,x)::r,z,h=>by
  simp only[ti];rw[h x aG];have ih:=fun z=>tH (esz:=esz) (ps:=r) (z:=z) fun y hy=>h y (by simp at hy⊢;exact .inr hy)
  simp only[ih]
theorem DU{i:I}{e e':List CV}{m:Mem}{K:CV->Mem->Prop}(hx:∀x,x∈i.xs->x.ev e=x.ev e')(h:step P i e m K):step P i e' m K:=by
 cases i<;>simp only[I.xs,abo,acp,or_false,forall_eq_or_imp,forall_eq]at hx
 case build z ps=>simpa only[step,tG hx]using h
 case ln esz z len ps=>simpa only[step,tH hx]using h
 case fn f ei=>simpa only[step,sh hx]using h
 case call f args=>simpa only[step,hx.1,sh hx.2]using h
 case load agg n a=>simpa only[step,uR,hx]using h
 case ij mx xs=>
  rcases xs with _|⟨x,_|⟨y,_|⟨z,r⟩⟩⟩
  .exact h
  .exact h
  .have h1:=hx x aG;have h2:=hx y aG;simpa only[step,h1,h2]using h
  .exact h
 case nh esz x lo hi mx=>
  have KK:∀(o:Option X)(d:Nat),(∀y,y∈o.toList->y.ev e=y.ev e')->kF e o d=kF e' o d:=fun o d ho=>by
   cases o with
   |none=>rfl
   |some y=>simp only[kF];rw[ho y aG]
  have hz:∀(o:Option X),(∀y,y∈o.toList->y.ev e=y.ev e')->Dk e o=Dk e' o:=fun o ho=>by
   cases o with
   |none=>rfl
   |some y=>simp only[Dk];rw[ho y aG]
  have h1:∀d,kF e lo d=kF e' lo d:=fun d=>KK lo d fun y hy=>hx.2 y (by simp[hy])
  have h2:∀d,kF e hi d=kF e' hi d:=fun d=>KK hi d fun y hy=>hx.2 y (by simp[hy])
  have h3:Dk e hi=Dk e' hi:=hz hi fun y hy=>hx.2 y (by simp[hy])
  cases mx with
  |none=>simpa only[step,hx.1,h1,h2]using h
  |some y=>
   have h4:y.ev e=y.ev e':=hx.2 y aG;simpa only[step,hx.1,h1,h2,h3,h4]using h
 case Hu x lo hi=>
  have KK:∀(o:Option X)(d:Nat),(∀y,y∈o.toList->y.ev e=y.ev e')->kF e o d=kF e' o d:=fun o d ho=>by
   cases o with
   |none=>rfl
   |some y=>simp only[kF];rw[ho y aG]
  have h1:∀d,kF e lo d=kF e' lo d:=fun d=>KK lo d fun y hy=>hx.2 y (by simp[hy])
  have h2:∀d,kF e hi d=kF e' hi d:=fun d=>KK hi d fun y hy=>hx.2 y (by simp[hy])
  simpa only[step,hx.1,h1,h2]using h
 case len k x=>
  match k with
  |0=>simpa only[step,hx]using h
  |1=>simpa only[step,hx]using h
  |2=>simpa only[step,hx]using h
  |k+3=>simpa only[step,hx]using h
 all_goals first
  |(simpa only[step,hx,hx.1,hx.2]using h)
  |(simpa only[step,hx]using h)
  |(simpa only[step]using h)
end
end Go.AM
