/- Part 7 of 35. -/
import Derived.Test.YtllkfpggoigbaaaGreatDoorS04
import Derived.Test.YtllkfpggoigbaaaGreatDoorS05
import Derived.Test.YtllkfpggoigbaaaGreatDoorS06
import Derived.Laws.IdiomStrings
import Derived.Laws.MakeOwn
import Derived.MapKept
set_option linter.unusedVariables false
set_option linter.unusedSimpArgs false
set_option linter.unnecessarySimpa false
set_option maxRecDepth 100000
set_option maxHeartbeats 0
namespace Go.AM
open Go.MapKept
section
variable {P:Program} {ρ:bX} {m:Mem} {w:World} {aY:List CV} {a:Act} {K:CV->Mem->Prop}
theorem Av:∀{E:List (List CC)}{xs:List Int},xb E=some xs->E=xs.map λn=>[.ai (.val (.int .u8 n))]
 | [],xs,h=>by simp[xb]at h;subst h;rfl
 |cs::r,xs,h=>by
  unfold xb at h;split at h
  .rename_i heq;cases heq
  .rename_i n r' heq;cases heq;split at h
   .rename_i l hl;cases h;rw[Av hl];rfl
   .cases h
  .cases h
theorem KD(hM:aK ρ m w)(hE:bq ρ w aY a.tmps){s d e:TypeId}{x:Operand}{x':X}(hs:P.underlying s=some (.slice e))(he:P.underlying e=some (.int .u8))(hd:P.underlying d=some .string)(hx:bD x=some x')(h:step P (.Ui x') aY m K):ec P (do pure (Next.value (<-convert s d (a.eval x)))) ρ m w K:=by
 have cD:=aS hE hx;simp only[step]at h;obtain⟨E,BK,h⟩:=bb.1 h;obtain⟨xs,X1,hK⟩:=bb.1 h;obtain⟨ad,cap,vs,hv,h1,h2,F⟩:=oA hM BK cD;have hEx:=Av X1;have Fq:∀i,i<xs.length->vs[i]? =some (.int .u8 (xs.getD i 0)):=by
  intro i hi;have hg:E[i]? =some [.ai (.val (.int .u8 xs[i]))]:=by rw[hEx,Qu,wy hi];rfl
  obtain⟨u,hu,cI⟩:=F.lR i _ 0 _ hg rfl;cases cI with
  |val v hp=>
   rw[show i=i*1+0 by omega,hu]
   simp[List.getD,wy hi]
 have hlen:E.length=xs.length:=by rw[hEx];simp
 refine ec.pure hM (v:= .string (strOfNums xs)) ?_ hK (cM rfl);rw[hv,Sem.run_bind];rcases abY E.length with h0|h0
 .have YV:xs=[]:=aaX om;subst YV;rw[h0];cases ad with
  |none=>rw[run_convert_bytes_nil (P:=P) w s e hs he 0 cap d hd];rfl
  |some ad=>
   obtain⟨b,off,sp⟩:=ad;have:(convert s d (.slice (some ⟨b,off,sp⟩) 0 cap)).run P w= .ok (.string (strOfNums [])) w:=by
    rw[run_convert_bytes_string w s d e _ 0 cap hs he hd,run_bytesToString w _ 0 cap [] (by simp[loadCells,loadCellsFrom])]
    rfl
   rw[this];rfl
 .obtain⟨b,off,rfl,hc⟩:=F.ND h0;rw[run_convert_bytes_arg (P:=P) w s e hs he b off E.length cap xs hlen.symm (λi hi=>hc i _ (Fq i om)) d hd]
  rfl
theorem sL(hM:aK ρ m w){esz cap:Nat}{elems:List (List CC)}{cells:Array Value}{w':World}(Un:eT w w')(cn:m8 (esz=1) w' w.heap.size cells)(dQ:cap*esz<=cells.size)(hlen:elems.length<=cap)(bv:cap<=maxLen)(oh:∀cs,cs∈elems->cs.length=esz)(hd:∀(i:Nat)cs(j:Nat)c,elems[i]? =some cs->cs[j]? =some c->∃u,cells[i*esz+j]? =some u/\bH ρ w .none c u):
  ∃U',aK U' (m++ [.row esz elems]) w'/\Ext ρ m w U' (m++ [.row esz elems]) w'/\
   cw U' w' (.rv (.one (.row m.length esz 0 none))) (.slice (some ⟨w.heap.size,0,none⟩) elems.length cap):=by
 have ax:w.heap.size<w'.heap.size:=cn.lt;let l:zA:=⟨w.heap.size,0,elems.length,cap⟩;have hn:=hM.n;have cV:(ρ.push l).aV (.ay m.length)=l:=by rw[<-hn];exact ρ.ku l
 have g:jC ρ w (ρ.push l) w':=⟨by simp[bX.push],λk hk=>ρ.ft l hk,λb hb=>hb,λb hb=>Un.heap b (hM.S b hb)⟩
 have hb:eS (ρ.push l) w' m.length (.row esz elems):=by
  refine⟨by rw[cV],by rw[cV];exact hlen,by rw[cV];exact bv,oh,λ_=>⟨cells,by rw[cV];exact cn,by rw[cV];simpa[l]using dQ,λi cs j c hi hj=>?_⟩⟩
  obtain⟨u,hu,cI⟩:=hd i cs j c hi hj;exact⟨u,by rw[cV];simpa[l]using hu,(cI.cY g aD).xm _⟩
 obtain⟨h1,h2⟩:=hM.push (l:=l) Un (aai _) ax hb (λi cs j c hi hj=>by obtain⟨u,hu,cI⟩:=hd i cs j c hi hj;exact cI.BC)
 refine⟨_,h1,h2,by simp[bX.push,hn],?_⟩
 rw[cV];refine⟨aD,aD,hlen,bv,_,rfl,λ_=>?_⟩
 simp[l]
theorem KE(hM:aK ρ m w)(hE:bq ρ w aY a.tmps){s d e:TypeId}{x:Operand}{x':X}(hs:P.underlying s=some .string)(hd:P.underlying d=some (.slice e))(he:P.underlying e=some (.int .u8))(hx:bD x=some x')(h:step P (.s2b x') aY m K):ec P (do pure (Next.value (<-convert s d (a.eval x)))) ρ m w K:=by
 have cD:=aS hE hx;simp only[step]at h;generalize a.eval x=v at cD|-;generalize x'.ev aY=c at cD h;split at h
 .rename_i str;obtain⟨rfl,hp⟩:=bY cD;obtain⟨dQ,hK⟩:=h;rw[kh,cf]at hK;have ef:=grownCap_ge w str.size 0 e;have hle:grownCap w str.size 0 e<=maxLen:=grownCap_le_maxLen w _ 0 e (by unfold maxLen;omega)
  have fA:(bytesRow str (grownCap w str.size 0 e)).size=grownCap w str.size 0 e:=by simp only[bytesRow,Array.size_append,Array.size_map,Array.size_replicate];have:str.data.size=str.size:=rfl;omega
  have hlen:(rD str).length=str.size:=by simp[rD]
  obtain⟨U',g1,g2,g3⟩:=sL hM (esz:=1) (cap:=grownCap w str.size 0 e) (elems:=rD str) (cells:=bytesRow str (grownCap w str.size 0 e))
   (w':=w.drew.alloc (.cells (bytesRow str (grownCap w str.size 0 e)) e ((bytesRow str (grownCap w str.size 0 e)).size,(bytesRow str (grownCap w str.size 0 e)).size+1)))
   ((eT.drew w).trans (eT.alloc w.drew _)) ⟨e,_,heap_alloc_new w.drew _,aD,(λi hi=>by simp;omega),.inl rfl⟩ (by rw[fA];omega) (by rw[hlen];exact ef) hle
   (λcs fA=>by simp only[rD,abl]at fA;obtain⟨_,_,rfl⟩:=fA;rfl)
   (λi cs j c hi hj=>by
    simp only[rD,Qu]at hi;obtain⟨b,hb,rfl⟩:=abA.1 hi;cases j with
    |zero=>
     simp at hj;subst hj;refine⟨.int .u8 b.toNat,?_,.val _ rfl⟩;have uj:str.data[i]? =some b:=by simpa using hb
     have ax:=(abG.1 uj).1;simp only[bytesRow,Nat.mul_one,adS];rw[ac5 (by simpa using ax),aex,uj]
     rfl
    |succ j=>simp at hj)
  rw[hlen]at g3;exact⟨_,_,_,_,_,U',by rw[Sem.run_bind,run_bytes_of_string w s d e str hs hd he];rfl,.inl rfl,hK,g1,g3,g2⟩
 .exact h.elim
theorem zH(hM:aK ρ m w)(hE:bq ρ w aY a.tmps){t e:TypeId}{i:TypeInfo}{z:List CC}{x y:Operand}{x' y':X}(ht:P.underlying t=some (.slice e))(hi:P.info? e=some i)(hz:eu P e=some z)(dQ:i.size=z.length)(dD:0<z.length)(hb:0<i.bytes)(hx:bD x=some x')(hy:bD y=some y')(h:step P (.wF i.size i.bytes z x' y') aY m K):ec P (do pure (Next.value (<-Instr.makeSlice t (a.eval x) (a.eval y)))) ρ m w K:=by
 simp only[step]at h;obtain⟨l,hl,h⟩:=bb.1 h;obtain⟨c,hc,h⟩:=bb.1 h;rcases cP.1 h with⟨tX,h⟩|⟨_,h⟩
 case inr=>exact h.elim
 have tX:l=c:=aa1 tX;subst tX;obtain⟨lq,hK⟩:=h;rw[kh,cf]at hK;have nat:∀{c:CV}{v:Value}{k:Nat},px c=some k->cw ρ w c v->∃kd,v= .int kd (k:Int):=by
  intro c v k h hd;unfold px at h;split at h
  .cases h;obtain⟨rfl,_⟩:=bY hd;exact⟨_,rfl⟩
  .cases h
 obtain⟨kl,vz⟩:=nat hl (aS hE hx);obtain⟨kc,YW⟩:=nat hc (aS hE hy);have CZ:=hz;simp only[eu,WE,U2]at CZ;obtain⟨i',eM,zv,RH,RE⟩:=CZ;rw[hi]at eM;cases eM;obtain⟨NJ,VH⟩:=fu (ρ:=ρ) (w:=w) RE;have Q5:zv.cells.size=z.length:=by simpa using NJ
 have qy:l<=140737488355328:=abJ (adY _ hb) lq;obtain⟨U',g1,g2,g3⟩:=sL hM (esz:=i.size) (cap:=l) (elems:=gP l z) (cells:=madeCells zv.cells (l*i.size)) (w':=w.alloc (.cells (madeCells zv.cells (l*i.size)) e))
  (eT.alloc w _) (m8.new w _ e) (by rw[size_madeCells];exact aai _) (by rw[fK];simp) (by unfold maxLen;omega)
  (λcs fA=>by rw[fK]at fA;rw[ac1 fA,dQ])
  (λk cs j cc hk hj=>by
   rw[fK]at hk;have k7:=(Lw.1 hk).1;simp at k7;have fA:cs=z:=by have:=Vm hk;exact ac1 this
   subst fA;have C0:=(Lw.1 hj).1;obtain⟨u,hu,cI⟩:=VH j cc hj;refine⟨u,?_,cI⟩;have ax:k*i.size+j<l*i.size:=by have:(k+1)*i.size<=l*i.size:=abS _ k7;rw[ab3,acs]at this;omega
   simp only[madeCells,aex,Array.getElem?_range];rw[if_pos ax];simp only[aa3,abe];have hm:(k*i.size+j)%zv.cells.size=j:=by rw[Q5,dQ,adT,afi,aff C0]
   rw[hm];have wm:zv.cells[j]? =some u:=by simpa using hu
   rw[getElem!_def,wm])
 have X5:(gP l z).length=l:=by rw[fK];simp
 rw[X5]at g3;refine⟨_,_,_,_,_,U',?_,.inl rfl,hK,g1,g3,g2⟩;rw[vz,YW,Sem.run_bind,run_make (P:=P) w t e i zv ht hi RH kl kc (l:Int) (l:Int) om (aew _) ?_ om]
 .rfl
 .have:i.bytes*l<=140737488355328:=by rw[adT];exact lq
  have h2:((i.bytes*l:Nat):Int)<=((140737488355328:Nat):Int):=Int.ofNat_le.2 this;rw[Int.natCast_mul]at h2;exact Int.le_trans h2 om
def kQ:Ky->TypeDesc
 | .i k=>.int k
 | .s=>.string
 | .b=>.bool
theorem Aw{t:TypeId}{kk:Ky}(h:Kk P t=some kk):P.underlying t=some (kQ kk):=by
 unfold Kk at h;split at h<;>simp at h<;>subst h<;>assumption
theorem Dr{kk:Ky}{v:Value}(h:zD kk v=true):IsKey (kQ kk) v:=by
 cases kk<;>cases v<;>simp_all[zD,IsKey,kQ]
theorem Ax{kk:Ky}{a b:Value}{t:Bool}(ha:zD kk a=true)(h:ra a b=some t):Instr.sameNow (kQ kk) a b=some t/\(t=true->a=b)/\(t=false->a≠b):=by
 cases kk<;>cases a<;>simp[zD]at ha<;>cases b<;>simp only[ra,reduceCtorEq]at h
 .rename_i k x k' y;split at h
  .rename_i hk;have hk:=of_decide_eq_true hk;subst hk;cases h;refine⟨by simp[Instr.sameNow,kQ],λh=>by simp at h;rw[h],λh=>by simp at h;simpa using h⟩
  .cases h
 .rename_i x y;cases h;refine⟨by simp[Instr.sameNow,kQ],λh=>by rw[(bytes_beq _ _).1 h],λh e=>?_⟩
  cases e;rw[(bytes_beq _ _).2 rfl]at h;cases h
 .rename_i x y;cases h;refine⟨by simp[Instr.sameNow,kQ],λh=>by simp at h;rw[h],λh=>by simp at h;simpa using h⟩
theorem vA{kk:Ky}{kv:Value}(hk:zD kk kv=true):∀(es:List ME)(fk:List MapEntry)(n:Nat)(o:Option RV),fk.length=es.length->
  (∀(i:Nat)e,es[i]? =some e->∃e',fk[i]? =some e'/\e'.key=e.key/\ep ρ w e.val e'.val)->sA kv es=some o->
  match o with
  |none=>Instr.findNow (kQ kk) kv fk n=some none
  |some r=>∃j v,Instr.findNow (kQ kk) kv fk n=some (some (n+j,v))/\ep ρ w r v
 | [],[],n,o,_,_,h=>by simp[sA]at h;subst h;rfl
 | [],_::_,_,_,h,_,_=>by simp at h
 |_::_,[],_,_,h,_,_=>by simp at h
 |e::es,e'::fk,n,o,hl,hr,h=>by
  obtain⟨e0,h0,pf,cD⟩:=hr 0 e rfl;simp at h0;subst h0;simp only[sA]at h;cases hq:ra kv e.key with
  |none=>rw[hq]at h;cases h
  |some t=>
   obtain⟨q1,q2,q3⟩:=Ax hk hq;rw[<-pf]at q1;cases t with
   |true=>
    rw[hq]at h;cases h;exact⟨0,e'.val,by simp[Instr.findNow,q1],cD⟩
   |false=>
    rw[hq]at h;have ih:=vA hk es fk (n+1) o (by simpa using hl) (λi x hx=>by simpa using hr (i+1) x (by simpa using hx)) h
    cases o with
    |none=>simpa[Instr.findNow,q1]using ih
    |some r=>
     obtain⟨j,v,h1,h2⟩:=ih;exact⟨j+1,v,by simp[Instr.findNow,q1,h1];omega,h2⟩
theorem xy{kk:Ky}{kv:Value}(hk:zD kk kv=true)(r:RV):∀(es:List ME)(fk:List MapEntry)(n:Nat)(l:List ME),fk.length=es.length->
  (∀(i:Nat)e,es[i]? =some e->∃e',fk[i]? =some e'/\e'.key=e.key/\ep ρ w e.val e'.val)->By kv r es=some l->
  (Instr.findNow (kQ kk) kv fk n=some none/\l=es++ [⟨kv,r⟩])\/∃j e',Instr.findNow (kQ kk) kv fk n=some (some (n+j,e'.val))/\fk[j]? =some e'/\e'.key=kv/\l=es.set j ⟨kv,r⟩
 | [],[],n,o,_,_,h=>by simp[By]at h;subst h;exact .inl ⟨rfl,rfl⟩
 | [],_::_,_,_,h,_,_=>by simp at h
 |_::_,[],_,_,h,_,_=>by simp at h
 |e::es,e'::fk,n,o,hl,hr,h=>by
  obtain⟨e0,h0,pf,cD⟩:=hr 0 e rfl;simp at h0;subst h0;simp only[By]at h;cases hq:ra kv e.key with
  |none=>rw[hq]at h;cases h
  |some t=>
   obtain⟨q1,q2,q3⟩:=Ax hk hq;rw[<-pf]at q1;cases t with
   |true=>
    rw[hq]at h;cases h;exact .inr ⟨0,e',by simp[Instr.findNow,q1],rfl,by rw[pf,q2 rfl],rfl⟩
   |false=>
    rw[hq]at h;simp only at h;split at h
    .rename_i l' Du;cases h;rcases xy hk r es fk (n+1) l' (by simpa using hl) (λi x hx=>by simpa using hr (i+1) x (by simpa using hx)) Du with⟨h1,rfl⟩|⟨j,e1,h1,h2,h3,rfl⟩
     .exact .inl ⟨by simpa[Instr.findNow,q1]using h1,rfl⟩
     .exact .inr ⟨j+1,e1,by simp[Instr.findNow,q1,h1];omega,by simpa using h2,h3,rfl⟩
    .cases h
theorem vB(hM:aK ρ m w){t:TypeId}{r:Option Value}(hr:r=none\/∃k n kt et,r=some (.int k n)/\P.underlying t=some (.map kt et))(h:step P .Db aY m K):ec P (do pure (Next.value (<-Instr.makeMap t r))) ρ m w K:=by
 simp only[step,kh,cf]at h;let l:zA:=⟨w.heap.size,0,0,0⟩;have hn:=hM.n;have cV:(ρ.push l).aV (.ay m.length)=l:=by rw[<-hn];exact ρ.ku l
 obtain⟨h1,h2⟩:=hM.push (bk:= .mp []) (l:=l) (eT.alloc w (.map #[] 0)) (aai _) (by simp[l]) (by refine⟨#[],0,?_,rfl,aD⟩;rw[cV];exact(heap_alloc w _).1) trivial
 refine⟨.value (.map (some w.heap.size)),.map (some w.heap.size),w.alloc (.map #[] 0),_,_,_,?_,.inl rfl,h,h1,⟨by simp[bX.push,hn],by rw[cV]⟩,h2⟩
 rcases hr with rfl|⟨k,n,kt,et,rfl,ht⟩
 .simp[Instr.makeMap]
 .simp[Instr.makeMap,run_underlying ht,asInt,asIntOf]
theorem KF{t:TypeId}{z:RV}(h:Iy P t=some z):∃v,(zeroValue t).run P w= .ok v w/\ep ρ w z v:=by
 simp only[Iy,WE,U2]at h;obtain⟨i,hi,zv,RH,h⟩:=h;refine⟨zv,by simp[zeroValue,typeInfo,hi,RH],?_⟩
 split at h
 .rename_i cs;simp only[U2]at h;obtain⟨zz,hz,h⟩:=h;cases h;obtain⟨h1,h2⟩:=fu (ρ:=ρ) (w:=w) hz;exact⟨cs.toList,aD,h1,h2⟩
 .simp only[U2]at h;obtain⟨c,hc,h⟩:=h;cases h;exact rE hc
theorem Dv(hM:aK ρ m w){c:CV}{v:Value}{es:List ME}(h:Nl m c=some es)(hd:cw ρ w c v):
  (v= .map none/\es=[])\/∃b fk clock,v= .map (some b)/\w.heap[b]? =some (.map fk clock)/\FE ρ w es fk:=by
 unfold Nl at h;split at h
 .rename_i id;split at h
  .rename_i es0 hb;cases h;rw[aW]at hb;obtain⟨ax,rfl⟩:=hd;obtain⟨fk,clock,h1,h2⟩:=hM.bk id _ hb;exact .inr ⟨_,fk,clock,rfl,h1,h2⟩
  .cases h
 .cases h;obtain⟨rfl,_⟩:=bY hd;exact .inl ⟨rfl,rfl⟩
 .cases h
theorem F8(hM:aK ρ m w)(hE:bq ρ w aY a.tmps){t kt vt:TypeId}{z:RV}{kk:Ky}{x k:Operand}{x' k':X}{b:Bool}(ht:P.underlying t=some (.map kt vt))(hz:Iy P vt=some z)(hk:Kk P kt=some kk)(hx:bD x=some x')(Fs:bD k=some k')(h:step P (.Rw z kk x' k' b) aY m K):ec P (do pure (Next.value (<-Instr.lookup t (a.eval x) (a.eval k) b))) ρ m w K:=by
 have X6:=aS hE hx;have F9:=aS hE Fs;simp only[step]at h;generalize a.eval x=xv at X6|-;generalize a.eval k=kv at F9|-;generalize k'.ev aY=kc at F9 h;split at h
 .rename_i acZ;rcases cP.1 h with⟨km,h⟩|⟨_,h⟩
  case inr=>exact h.elim
  obtain⟨rfl,VI⟩:=bY F9 (λe=>by subst e;cases kk<;>simp[zD]at km)
  obtain⟨es,oh,h⟩:=bb.1 h;obtain⟨o,ho,hK⟩:=bb.1 h;have KG:=Aw hk;have pf:=Dr km;obtain⟨zv,YH,VH⟩:=KF (ρ:=ρ) (w:=w) hz;have lR:∀(v:Value)(r:RV)(t:Bool),ep ρ w r v->(b=true->cw ρ w (.bG [r,.one (.ai (.val (.bool t)))]) (.tuple #[v,.bool t])):=λv r t hv _=>
   ⟨[v,.bool t],rfl,rfl,λi r' hi=>by
    match i,hi with
    |0,hi=>cases hi;exact⟨v,rfl,hv⟩
    |1,hi=>cases hi;exact⟨_,rfl,.val _ rfl⟩⟩
  have go:∀(r:Option Nat)(fk:List MapEntry)(em:Bool),(∀(o':Option (Nat×Value)),Instr.findNow (kQ kk) kv fk 0=some o'->
    (Instr.lookup t (.map r) kv b).run P w=((match o' with|some (_,v)=>(Pure.pure (v,true):Sem (Value×Bool))|none=>(do pure (<-zeroValue vt,false))).run P w).andThen λp w'=>.ok (if b then .tuple #[p.1,.bool p.2]else p.1) w')->
    (fk.length=es.length/\∀(i:Nat)e,es[i]? =some e->∃e',fk[i]? =some e'/\e'.key=e.key/\ep ρ w e.val e'.val)->ec P (do pure (Next.value (<-Instr.lookup t (.map r) kv b))) ρ m w K:=by
   intro r fk em eU xz;have hf:=vA (ρ:=ρ) (w:=w) km es fk 0 o xz.1 xz.2 ho;cases o with
   |none=>
    have h1:=eU none hf;simp only[Sem.run_bind,YH,Result.andThen_ok,Sem.run_pure]at h1;cases b with
    |false=>exact ec.pure hM (v:=zv) (by rw[Sem.run_bind,h1];rfl) hK VH
    |true=>exact ec.pure hM (v:= .tuple #[zv,.bool false]) (by rw[Sem.run_bind,h1];rfl) hK (lR zv z false VH rfl)
   |some r=>
    obtain⟨j,v,hf,hv⟩:=hf;have h1:=eU _ hf;simp only[Sem.run_pure,Result.andThen_ok]at h1;cases b with
    |false=>exact ec.pure hM (v:=v) (by rw[Sem.run_bind,h1];rfl) hK hv
    |true=>exact ec.pure hM (v:= .tuple #[v,.bool true]) (by rw[Sem.run_bind,h1];rfl) hK (lR v r true hv rfl)
  rcases Dv hM oh X6 with⟨rfl,rfl⟩|⟨r,fk,clock,rfl,hb,hl,hr⟩
  .refine go none [] true (λo' d5=>?_) ⟨rfl,aD⟩
   cases o' with
   |none=>cases b<;>simp[Instr.lookup,run_underlying ht,run_checkKey KG pf,run_findKey KG d5,Result.andThen,YH]
   |some p=>cases b<;>simp[Instr.lookup,run_underlying ht,run_checkKey KG pf,run_findKey KG d5,Result.andThen]
  .refine go (some r) fk.toList fk.isEmpty (λo' d5=>?_) ⟨by simpa using hl,λi e he=>by
     obtain⟨e',h1,h2⟩:=hr i e he;exact⟨e',by simpa using h1,h2⟩⟩
   cases o' with
   |none=>cases b<;>simp[Instr.lookup,run_underlying ht,Go.MapKept.run_getObj_map hb,run_checkKey KG pf,run_findKey KG d5,Result.andThen,YH]
   |some p=>cases b<;>simp[Instr.lookup,run_underlying ht,Go.MapKept.run_getObj_map hb,run_checkKey KG pf,run_findKey KG d5,Result.andThen]
 .exact h.elim
theorem NK{c:CV}{v:Value}{r:RV}(h:FF c=some r)(hd:cw ρ w c v):ep ρ w r v:=by
 unfold FF at h;split at h
 .cases h;exact hd
 .cases h
theorem xA(hM:aK ρ m w)(hE:bq ρ w aY a.tmps){t kt vt:TypeId}{kk:Ky}{x k v:Operand}{x' k' v':X}(ht:P.underlying t=some (.map kt vt))(hk:Kk P kt=some kk)(hx:bD x=some x')(Fs:bD k=some k')(hvx:bD v=some v')(h:step P (.Rx kk x' k' v') aY m K):ec P (do Instr.mapUpdate t (a.eval x) (a.eval k) (a.eval v);pure Next.skip) ρ m w K:=by
 have X6:=aS hE hx;have F9:=aS hE Fs;have zq:=aS hE hvx;simp only[step]at h;generalize a.eval x=xv at X6|-;generalize a.eval k=kv at F9|-;generalize a.eval v=vv at zq|-;generalize x'.ev aY=xc at X6 h;split at h
 .rename_i id;generalize k'.ev aY=kc at F9 h;split at h
  .rename_i acZ;rcases cP.1 h with⟨km,h⟩|⟨_,h⟩
   case inr=>exact h.elim
   obtain⟨rfl,VI⟩:=bY F9 (λe=>by subst e;cases kk<;>simp[zD]at km)
   obtain⟨bk,gv,h⟩:=bb.1 h;rw[aW]at gv;cases bk<;>simp only at h
   rename_i es;obtain⟨r,hr,h⟩:=bb.1 h;obtain⟨l,hl,hK⟩:=bb.1 h;rw[bh]at hK;have KG:=Aw hk;have pf:=Dr km;have X7:=NK hr zq;obtain⟨ax,rfl⟩:=X6;obtain⟨fk,clock,hb,dQ,xz⟩:=hM.bk id _ gv;have YX:∀o,m9 w {w with heap:=w.heap.setIfInBounds (ρ.aV (.ay id)).b o} (ρ.aV (.ay id)).b:=λo=>
    ⟨λb fG=>(heap_set (o':=o) hb).2 b fG,aD,rfl,rfl,rfl⟩
   have cZ:Live ρ m (.ay id):=⟨_,gv,aD,by rintro⟨_,_,e⟩;cases e⟩
   have gu:∀(X8:Array MapEntry)(xD:Nat),(Instr.mapUpdate t (.map (some (ρ.aV (.ay id)).b)) kv vv).run P w= .ok () {w with heap:=w.heap.setIfInBounds (ρ.aV (.ay id)).b (.map X8 xD)}->
     (jC ρ w ρ {w with heap:=w.heap.setIfInBounds (ρ.aV (.ay id)).b (.map X8 xD)}->FE ρ {w with heap:=w.heap.setIfInBounds (ρ.aV (.ay id)).b (.map X8 xD)} l X8)->ec P (do Instr.mapUpdate t (.map (some (ρ.aV (.ay id)).b)) kv vv;pure Next.skip) ρ m w K:=by
    intro X8 xD eU hmr;obtain⟨nA,hX⟩:=hM.XZ (IF:= .mp l) gv cZ (YX _) (λg=>⟨X8,xD,(heap_set hb).1,hmr g⟩) (by
     rintro i' j' esz e ⟨es3,rows,Q0,kG,_,_⟩;rw[aaj (by rw[<-hM.n];exact ax)]at kG
     cases kG)
    refine⟨.skip,Go.undef,_,.undef,_,ρ,?_,.inr ⟨rfl,rfl⟩,hK,nA,rfl,hX⟩;rw[Sem.run_bind,eU];rfl
   rcases xy (ρ:=ρ) (w:=w) km r es fk.toList 0 l (by simpa using dQ) (λi e he=>by
     obtain⟨e',h1,h2⟩:=xz i e he;exact⟨e',by simpa using h1,h2⟩) hl with⟨hf,rfl⟩|⟨j,e',hf,hj,rJ,rfl⟩
   .refine gu (fk.push {key:=kv,val:=vv,born:=clock}) (clock+1) ?_ λg=>⟨by simp[dQ],λi e he=>?_⟩
    .simp[Instr.mapUpdate,run_underlying ht,Go.MapKept.run_getObj_map hb,run_checkKey KG pf,run_findKey KG hf,run_setObj_map _ hb,Result.andThen]
    .rcases aax i es.length with h1|h1
     .rw[aaW h1]at he;obtain⟨e',h2,h3,h4⟩:=xz i e he;exact⟨e',by rw[Array.getElem?_push,if_neg om];exact h2,h3,h4.cY g⟩
     .have hi:=(Lw.1 he).1;simp at hi;have iw:i=es.length:=om;subst iw;simp at he;subst he;exact⟨_,by rw[Array.getElem?_push,if_pos dQ.symm],rfl,X7.cY g⟩
   .have rG:fk[j]? =some e':=by simpa using hj
    have bQ:=(abG.1 rG).1;refine gu (fk.modify j λe=>{e with key:=kv,val:=vv}) clock ?_ λg=>⟨by simp[dQ],λi e he=>?_⟩
    .rw[abV]at hf;simp[Instr.mapUpdate,run_underlying ht,Go.MapKept.run_getObj_map hb,run_checkKey KG pf,run_findKey KG hf,run_setObj_map _ hb,Result.andThen,rG,rJ,run_keyThatStays pf]
    .rw[abU]at he;by_cases sM:j=i
     .subst sM;rw[if_pos rfl,if_pos om]at he;cases he;exact⟨{e' with key:=kv,val:=vv},by rw[ace,if_pos rfl,rG];rfl,rfl,X7.cY g⟩
     .rw[if_neg sM]at he;obtain⟨e2,h2,h3,h4⟩:=xz i e he;exact⟨e2,by rw[ace,if_neg sM];exact h2,h3,h4.cY g⟩
  .exact h.elim
 .exact h.elim
end
end Go.AM
namespace Go.AM
section
variable {P:Program} {ρ:bX} {m:Mem} {w:World} {aY:List CV} {a:Act} {K:CV->Mem->Prop}
theorem xE{α:Type}{l:List α}{h:Nat}{E:List α}(hle:h+E.length<=l.length):(dd l h E).length=l.length:=by simp[dd];omega
theorem rK{α:Type}{l:List α}{h:Nat}{E:List α}(hle:h+E.length<=l.length)(i:Nat):(dd l h E)[i]? =if h<=i/\i<h+E.length then E[i-h]? else l[i]? :=by
 have hl:(l.take h).length=h:=by simp;omega
 simp only[dd];rcases aax i h with h1|h1
 .rw[aaW om,if_neg om,abK,if_pos h1]
 .rw[aaS om,hl];rcases aax (i-h) E.length with h2|h2
  .rw[aaW h2,if_pos om]
  .rw[aaS h2,if_neg om,ab5];congr 1;omega
theorem bH.NL{c:CC}{v:Value}{pos:Option (Nat×Nat×Nat)}(hc:c.jJ=true)(h:bH ρ w pos c v):bH ρ w .none c v:=by
 cases c<;>first|exact h|simp[CC.jJ]at hc
theorem um(hM:aK ρ m w){id esz h:Nat}{rows E:List (List CC)}{vs:List Value}(hb:m[id]? =some (.row esz rows))(hle:h+E.length<=rows.length)(dD:0<rows.length)(hE:∀cs,cs∈E->cs.length=esz)(vz:vs.length=E.length*esz)(ac0:∀u,u∈vs->u.oneCell'=true)(cD:∀(i:Nat)cs(j:Nat)c,E[i]? =some cs->cs[j]? =some c->∃u,vs[i*esz+j]? =some u/\bH ρ w .none c u):
  ∃w',(storeCells ⟨(ρ.aV (.ay id)).b,(ρ.aV (.ay id)).aB+h*esz,none⟩ vs).run P w= .ok () w'/\aK ρ (m.set id (.row esz (dd rows h E))) w'/\Ext ρ m w ρ (m.set id (.row esz (dd rows h E))) w':=by
 have hid:id<m.length:=(Lw.1 hb).1;obtain⟨h2,h3,h4,h5,CY⟩:=hM.bk id _ hb;have bv:0<(ρ.aV (.ay id)).cap:=om;obtain⟨cur,cn,h1,hd⟩:=CY bv;have hmul:(h+E.length)*esz<=(ρ.aV (.ay id)).cap*esz:=abS _ om;rw[ab3]at hmul;obtain⟨w',iq,hr,sF,ht,dQ,hk⟩:=oz (P:=P) (ρ.aV (.ay id)).b ((ρ.aV (.ay id)).aB+h*esz) vs 0 cur w cn (by rw[vz];omega) ac0
 obtain⟨nA,hX⟩:=hM.XZ (IF:= .row esz (dd rows h E)) hb ⟨_,hb,aD,λ_=>bv⟩ ht (λg=>⟨by rw[xE hle];exact h2,h3,h4,λcs fA=>by
   obtain⟨i,hi⟩:=aak fA;rw[rK hle]at hi;split at hi
   .exact hE cs (Vm hi)
   .exact h5 cs (Vm hi),λ_=>⟨iq,sF,by rw[dQ];exact h1,λi cs j c hi hj=>by
  rw[hk];rw[rK hle]at hi;have f4:j<esz:=by
   have gF:cs.length=esz:=by
    split at hi
    .exact hE cs (Vm hi)
    .exact h5 cs (Vm hi)
   rw[<-gF];exact(Lw.1 hj).1
  split at hi
  .rename_i ip;obtain⟨u,hu,cI⟩:=cD _ cs j c hi hj;have e1:i*esz=h*esz+(i-h)*esz:=by rw[<-ab3];congr 1;omega
   have ax:=(Lw.1 hu).1;rw[if_pos om];refine⟨u,?_,(cI.cY g aD).xm _⟩;rw[<-hu];congr 1;omega
  .rename_i ip;obtain⟨u,hu,cI⟩:=hd i cs j c hi hj;have fG:¬((ρ.aV (.ay id)).aB+h*esz+0<=(ρ.aV (.ay id)).aB+i*esz+j/\(ρ.aV (.ay id)).aB+i*esz+j<(ρ.aV (.ay id)).aB+h*esz+0+vs.length):=by
    rw[vz];rcases aax i h with q|q
    .have:(i+1)*esz<=h*esz:=abS _ q;rw[ab3,acs]at this;omega
    .have:(h+E.length)*esz<=i*esz:=abS _ om;rw[ab3]at this;omega
   rw[if_neg fG];exact⟨u,hu,cI.cY g (by rintro _ _ _ e;cases e;rw[hM.n];exact hid)⟩⟩⟩) (by
  rintro i' j' zE e ⟨es,Uu,Q0,kG,eR,k6⟩;rw[aaj hid]at kG;cases kG;rw[rK hle]at eR;split at eR
  .obtain⟨u,hu,cI⟩:=cD _ _ _ _ eR k6;exact absurd rfl (cI.BC _ _)
  .exact⟨esz,rows,Q0,hb,eR,k6⟩)
 exact⟨w',hr,nA,hX⟩
theorem xF:∀{cs:List CC},rB cs=true->∀c,c∈cs->c.jJ=true
 | [],_,c,h=>by simp at h
 |x::r,h,c,hc=>by
  simp only[rB,aaL]at h;rcases abI.1 hc with rfl|hc
  .exact h.1
  .exact xF h.2 c hc
theorem rf:∀{E:List (List CC)},fM E=true->∀cs,cs∈E->rB cs=true
 | [],_,c,h=>by simp at h
 |x::r,h,c,hc=>by
  simp only[fM,aaL]at h;rcases abI.1 hc with rfl|hc
  .exact h.1
  .exact rf h.2 c hc
theorem rh{E:List (List CC)}(h:fM E=true){i j:Nat}{cs:List CC}{c:CC}(hi:E[i]? =some cs)(hj:cs[j]? =some c):c.jJ=true:=
 xF (rf h cs (Vm hi)) c (Vm hj)
theorem Dw(hM:aK ρ m w){t t2 ty e e2:TypeId}{i:TypeInfo}{z:List CC}{v v2:Value}{c2:CV}{id h:Nat}{rows E2:List (List CC)}(ht:P.underlying t=some (.slice e))(xt:P.underlying t2=some (.slice e2))(hi:P.info? e=some i)(hz:eu P e=some z)(dQ:i.size=z.length)(hb:0<i.bytes)(hd:cw ρ w (.rv (.one (.row id i.size 0 (some h)))) v)(rd:cw ρ w c2 v2)(gv:m[id]? =some (.row i.size rows))(Fr:fJ m i.size c2=some E2)(dD:0<rows.length)(hle:h+E2.length<=rows.length)(kj:fM E2=true)(lq:rows.length*i.bytes<=140737488355328)(hK:K (.rv (.one (.row id i.size 0 (some (h+E2.length))))) (m.set id (.row i.size (dd rows h E2)))):
  ec P (do pure (Next.value (<-Builtin.append_ #[t,t2] ty #[v,v2]))) ρ m w K:=by
 have hid:id<m.length:=(Lw.1 gv).1;have BK:fJ m i.size (.rv (.one (.row id i.size 0 (some h))))=some (bA rows 0 (some h)):=by simp[fJ,aW,gv]
 obtain⟨RF,lu,X2,Dp,YN,RG,F1⟩:=oA hM BK hd;obtain⟨ad2,NF,NG,zG,YO,YP,F2⟩:=oA hM Fr rd;have CZ:=hz;simp only[eu,WE,U2]at CZ;obtain⟨i',eM,zv,RH,RE⟩:=CZ;rw[hi]at eM;cases eM;have YY:(bA rows 0 (some h)).length=h:=by rw[mR];simp;omega
 rw[YY]at Dp YN;have YZ:(h+E2.length)*i.bytes<=140737488355328:=abJ (abS _ hle) lq;have eU:=pC (P:=P) (w:=w) (ty:=ty) ht xt hi RH (a0:=RF) (n1:=h) (c1:=lu) (n2:=E2.length) (src:=v2) (olds:=X2) (news:=NG)
  (by rw[zG];rfl) (λk=>by rw[zG];exact F2.firstCells NF k) (λk=>by have:=F1.firstCells (P:=P) lu k;rwa [YY]at this) hb YZ
 obtain⟨r2,r3,r4,r5,KB⟩:=hM.bk id _ gv;obtain⟨ax,d1,d2,d3,d4,ad,RJ,wh⟩:=hd;rw[RJ]at Dp;injection Dp with q1 q2 q3
 simp only[acY]at q3;have FO:h+E2.length<=lu:=by rw[<-q3];clear KB;omega
 have ul:=wh (by clear KB;omega)
 rw[if_pos FO]at eU;obtain⟨w',wg,nA,hX⟩:=um (P:=P) hM (h:=h) (E:=E2) (vs:=NG) gv hle dD F2.mD F2.len F2.one (λk cs j c hk hj=>by obtain⟨u,hu,cI⟩:=F2.lR k cs j c hk hj;exact⟨u,hu,cI.NL (rh kj hk hj)⟩)
 refine⟨.value (.slice RF (h+E2.length) lu),_,w',.rv (.one (.row id i.size 0 (some (h+E2.length)))),_,ρ,?_,.inl rfl,hK,nA,?_,hX⟩
 .rw[RJ,q1,q2,show(ρ.aV (.ay id)).cap-0=lu by simpa using q3,Sem.run_bind,eU]
  rw[<-q1,ul];simp only[Aq,nc,Nat.zero_mul,adS];rw[wg];rfl
 .refine⟨ax,WG _,?_,d3,d4,RF,?_,λh0=>by rw[<-q1];exact wh h0⟩
  .show h+E2.length<=_;clear KB;omega
  .simp only[ab7,acY];rw[q3]
theorem Dx(hM:aK ρ m w){t ty e:TypeId}{i:TypeInfo}{z:List CC}{v:Value}{id lo hi:Nat}{rows:List (List CC)}(ht:P.underlying t=some (.slice e))(eM:P.info? e=some i)(hz:eu P e=some z)(dQ:i.size=z.length)(hd:cw ρ w (.rv (.one (.row id i.size lo (some hi)))) v)(gv:m[id]? =some (.row i.size rows))(ix:lo<hi)(hle:hi<=rows.length)(hK:K (.bG []) (m.set id (.row i.size (dd rows lo (gP (hi-lo) z))))):
  ec P (do pure (Next.value (<-Builtin.clear_ #[t] ty #[v]))) ρ m w K:=by
 have hid:id<m.length:=(Lw.1 gv).1;have CZ:=hz;simp only[eu,WE,U2]at CZ;obtain⟨i',eR,zv,RH,RE⟩:=CZ;rw[eM]at eR;cases eR;obtain⟨NJ,VH⟩:=fu (ρ:=ρ) (w:=w) RE;have Q5:zv.cells.size=z.length:=by simpa using NJ
 obtain⟨r2,r3,r4,r5,KB⟩:=hM.bk id _ gv;obtain⟨ax,d1,d2,d3,d4,ad,RJ,wh⟩:=hd;have ul:=wh (by clear KB;omega)
 have hrl:(gP (hi-lo) z).length=hi-lo:=by rw[fK];simp
 obtain⟨w',wg,nA,hX⟩:=um (P:=P) hM (h:=lo) (E:=gP (hi-lo) z) (vs:=(Builtin.zeroCells zv.cells (hi-lo)).toList) gv (by rw[hrl];omega) om
  (λcs fA=>by rw[fK]at fA;rw[ac1 fA,dQ]) (by rw[hrl,acF,size_zeroCells,Q5,dQ])
  (λu hu=>by
   rw[aee]at hu;simp only[Builtin.zeroCells,Array.mem_map]at hu;obtain⟨k,hk,rfl⟩:=hu;have hk:k<(hi-lo)*zv.cells.size:=by simpa using hk
   have hzp:0<zv.cells.size:=by
    rcases abY zv.cells.size with h0|h0
    .rw[h0]at hk;simp at hk
    .exact h0
   have hm:k%zv.cells.size<zv.cells.size:=Nat.mod_lt _ hzp;rw[Q5]at hm;obtain⟨u,hu,cI⟩:=VH _ _ (wy hm);have wm:zv.cells[k%zv.cells.size]? =some u:=by rw[Q5];simpa using hu
   rw[getElem!_def,wm];exact cI.one)
  (λk cs j c hk hj=>by
   rw[fK]at hk;have k7:=(Lw.1 hk).1;simp at k7;have fA:cs=z:=ac1 (Vm hk);subst fA;have C0:=(Lw.1 hj).1;obtain⟨u,hu,cI⟩:=VH j c hj;refine⟨u,?_,cI⟩;have ax:k*i.size+j<(hi-lo)*zv.cells.size:=by have:(k+1)*i.size<=(hi-lo)*i.size:=abS _ k7;rw[ab3,acs]at this;rw[Q5,<-dQ];omega
   simp only[Builtin.zeroCells,adx,aex,Array.getElem?_range];rw[if_pos ax];simp only[aa3,abe];have hm:(k*i.size+j)%zv.cells.size=j:=by rw[Q5,dQ,adT,afi,aff C0]
   rw[hm];have wm:zv.cells[j]? =some u:=by simpa using hu
   rw[getElem!_def,wm])
 refine⟨.value (.tuple #[]),_,w',.bG [],_,ρ,?_,.inl rfl,hK,nA,⟨[],rfl,rfl,λi r h=>by simp at h⟩,hX⟩
 have hn:hi-lo≠0:=om;simp only[ab7]at RJ;rw[RJ,ul];obtain⟨n,Q3⟩:∃n,hi-lo=n+1:=⟨hi-lo-1,om⟩;rw[Q3]at wg|-;simp[Builtin.clear_,run_underlying ht,zeroValue,typeInfo,eM,RH,wg]
theorem KH(hM:aK ρ m w)(hE:bq ρ w aY a.tmps){t t2 ty e e2:TypeId}{i:TypeInfo}{z:List CC}{x y:Operand}{x' y':X}(ht:P.underlying t=some (.slice e))(xt:P.underlying t2=some (.slice e2))(hi:P.info? e=some i)(hz:eu P e=some z)(dQ:i.size=z.length)(dD:0<z.length)(hb:0<i.bytes)(hx:bD x=some x')(hy:bD y=some y')(h:step P (.Vv i.size i.bytes x' y') aY m K):
  ec P (do pure (Next.value (<-Builtin.append_ #[t,t2] ty #[a.eval x,a.eval y]))) ρ m w K:=by
 simp only[step]at h;rcases cP.1 h with⟨Au,g1⟩|⟨_,g1⟩
 .exact F5 hM hE ht xt hi hz dQ dD hb hx hy Au g1
 .have hd:=aS hE hx;have rd:=aS hE hy;split at g1
  .rename_i id e1 lo hh Uq;rw[Uq]at hd;obtain⟨bk,gv,g2⟩:=bb.1 g1;rw[aW]at gv;split at g2
   .rename_i e2' rows;obtain⟨E2,Fr,g3⟩:=bb.1 g2;rcases cP.1 g3 with⟨hc,lq,hK⟩|⟨_,g4⟩
    case inr=>exact g4.elim
    simp only[aaL,abR]at hc;obtain⟨q1,q2,q3,c1,c2,c3⟩:=hc;have q1:=aa1 q1;have q2:=aa1 q2;have q3:=aa1 q3;subst q1 q2 q3;rw[bh]at hK;exact Dw hM ht xt hi hz dQ hb hd rd gv Fr c1 c2 c3 lq hK
   .exact g2.elim
  .exact g1.elim
theorem KJ(hM:aK ρ m w)(hE:bq ρ w aY a.tmps){t ty e:TypeId}{i:TypeInfo}{z:List CC}{x:Operand}{x':X}(ht:P.underlying t=some (.slice e))(hi:P.info? e=some i)(hz:eu P e=some z)(dQ:i.size=z.length)(hx:bD x=some x')(h:step P (.clr i.size z x') aY m K):
  ec P (do pure (Next.value (<-Builtin.clear_ #[t] ty #[a.eval x]))) ρ m w K:=by
 have hd:=aS hE hx;simp only[step]at h;generalize a.eval x=v at hd|-;generalize x'.ev aY=c at hd h;have nothing:∀ad cap,v= .slice ad 0 cap->K (.bG []) m->ec P (do pure (Next.value (<-Builtin.clear_ #[t] ty #[v]))) ρ m w K:=by
  intro ad cap hv hK;refine⟨.value (.tuple #[]),_,w,.bG [],m,ρ,?_,.inl rfl,hK,hM,⟨[],rfl,rfl,λi r h=>by simp at h⟩,Ext.refl _ _ _⟩
  subst hv;cases ad<;>simp[Builtin.clear_,run_underlying ht]
 split at h
 .rename_i id e1 lo eM;obtain⟨bk,gv,h⟩:=bb.1 h;rw[aW]at gv;split at h
  .rename_i e2 rows;rcases cP.1 h with⟨hc,ip⟩|⟨_,ip⟩
   case inr=>exact ip.elim
   clear h;simp only[aaL,abR]at hc;obtain⟨q1,q2,hle⟩:=hc;have q1:=aa1 q1;have q2:=aa1 q2;subst q1 q2;obtain⟨r2,_⟩:=hM.bk id _ gv;have Fp:cw ρ w (.rv (.one (.row id i.size lo (some (rC eM rows.length))))) v:=by
    obtain⟨d0,d1,d2,d3,d4,ad,hv,wh⟩:=hd;cases eM with
    |none=>
     simp only[adB]at d1 d2 hv;refine⟨d0,?_,?_,d3,d4,ad,?_,wh⟩<;>simp only[rC,ab7,r2]
     .exact d1
     .exact aai _
     .exact hv
    |some hh=>exact⟨d0,d1,d2,d3,d4,ad,hv,wh⟩
   rcases cP.1 ip with⟨ax,hK⟩|⟨ef,hK⟩
   .rw[bh]at hK;exact Dx hM ht hi hz dQ Fp gv (by simpa[aci]using ax) hle hK
   .have ef:¬lo<rC eM rows.length:=λhh=>by rw[<-aci,ef]at hh;cases hh
    obtain⟨d0,d1,d2,d3,d4,ad,hv,wh⟩:=Fp;simp only[ab7]at hv;rw[show rC eM rows.length-lo=0 by omega]at hv
    exact nothing _ _ hv hK
  .exact h.elim
 .obtain⟨ad,hv⟩:=hd;exact nothing _ _ hv h
 .exact h.elim
theorem NM{c:CV}{v:Value}(hc:Nk c=true)(hd:cw ρ w c v):∃ad n cap,v= .slice ad n cap:=by
 unfold Nk at hc;split at hc;all_goals first
  |(cases hc;done)
  |(have hd:dx _ _ _ _:=hd;cases hd<;>exact⟨_,_,_,rfl⟩)
  |(obtain⟨a,hv⟩:=hd;exact⟨_,_,_,hv⟩)
  |(obtain⟨_,_,_,_,_,a,hv,_⟩:=hd;exact⟨_,_,_,hv⟩)
theorem Ga(hM:aK ρ m w)(hE:bq ρ w aY a.tmps){t t2 ty e:TypeId}{i:TypeInfo}{z:List CC}{x y:Operand}{x' y':X}(ht:P.underlying t=some (.slice e))(hi:P.info? e=some i)(hz:eu P e=some z)(dQ:i.size=z.length)(hx:bD x=some x')(hy:bD y=some y')(h:step P (.copy i.size x' y') aY m K):
  ec P (do pure (Next.value (<-Builtin.copy_ #[t,t2] ty #[a.eval x,a.eval y]))) ρ m w K:=by
 have hd:=aS hE hx;have rd:=aS hE hy;simp only[step]at h;generalize a.eval x=v at hd|-;generalize a.eval y=v2 at rd|-;generalize x'.ev aY=c at hd h;generalize y'.ev aY=c2 at rd h;obtain⟨E,Fr,h⟩:=bb.1 h;obtain⟨ad2,NF,NG,zG,YO,YP,F2⟩:=oA hM Fr rd;have hn:=F2.firstCells (P:=P) NF 0;rw[show w.drewN 0=w from rfl]at hn;have h':=h;clear h;rcases cP.1 h' with⟨h0,g⟩|⟨h0,g⟩
 .have h0:E.length=0:=aa1 h0;rcases cP.1 g with⟨hs,hK⟩|⟨_,g⟩
  case inr=>exact g.elim
  obtain⟨ad,n,cap,hv⟩:=NM hs hd;have vz:NG=[]:=aaX (by rw[F2.len,h0,Nat.zero_mul])
  rw[h0]at hn zG;rw[vz]at hn;refine⟨.value (goInt 0),_,w,al .i64 0,m,ρ,?_,.inl rfl,hK,hM,dx.val (.int .i64 0) rfl,Ext.refl _ _ _⟩;subst hv zG;cases ad<;>simp[Builtin.copy_,run_underlying ht,Builtin.lenOf,sizeOf,typeInfo,hi,hn,storeCells]
 .split at g
  .clear h';rename_i rid e1 lo eM;obtain⟨bk,gv,g⟩:=bb.1 g;rw[aW]at gv;split at g
   .rename_i e2 rows;rcases cP.1 g with⟨hc,hK⟩|⟨_,g⟩
    case inr=>exact g.elim
    clear g;simp only[aaL,abR]at hc;obtain⟨q1,q2,hle,lq,kj⟩:=hc;have q1:=aa1 q1;have q2:=aa1 q2;subst q1 q2;have dD:0<E.length:=by
     rcases abY E.length with e0|e0
     .rw[e0]at h0;cases h0
     .exact e0
    obtain⟨r2,r3,_⟩:=hM.bk rid _ gv;have Fp:cw ρ w (.rv (.one (.row rid i.size lo (some (rC eM rows.length))))) v:=by
     obtain⟨d0,d1,d2,d3,d4,ad,hv,wh⟩:=hd;cases eM with
     |none=>
      simp only[adB]at d1 d2 hv;refine⟨d0,?_,?_,d3,d4,ad,?_,wh⟩<;>simp only[rC,ab7,r2]
      .exact d1
      .exact aai _
      .exact hv
     |some hh=>exact⟨d0,d1,d2,d3,d4,ad,hv,wh⟩
    obtain⟨w',wg,nA,hX⟩:=um (P:=P) hM (h:=lo) (E:=E) (vs:=NG) gv om om F2.mD F2.len F2.one (λk cs j c hk hj=>by obtain⟨u,hu,cI⟩:=F2.lR k cs j c hk hj;exact⟨u,hu,cI.NL (rh kj hk hj)⟩)
    rw[bh]at hK;obtain⟨d0,d1,d2,d3,d4,ad,hv,wh⟩:=Fp;simp only[ab7]at hv d2;have ul:=wh om;have KK:Nat.min E.length (rC eM rows.length-lo)=E.length:=aef om;refine⟨.value (goInt E.length),_,w',al .i64 (E.length:Int),_,ρ,?_,.inl rfl,hK,nA,dx.val (.int .i64 (E.length:Int)) rfl,hX⟩;subst hv zG ul;simp[Builtin.copy_,run_underlying ht,Builtin.lenOf,sizeOf,typeInfo,hi,hn,KK,wg]
   .exact g.elim
  .exact g.elim
theorem Gb(hM:aK ρ m w)(hE:bq ρ w aY a.tmps){t e:TypeId}{n sz:Nat}{agg:Bool}{x k:Operand}{x' k':X}(hu:P.underlying t=some (.array n e))(ha:eL P e=some agg)(hs:fh P e=some sz)(hx:bD x=some x')(hk:bD k=some k')(h:step P (.Nh agg n sz x' k') aY m K):ec P (do pure (Next.value (<-Instr.index t (a.eval x) (a.eval k)))) ρ m w K:=by
 have hd:=aS hE hx;have F9:=aS hE hk;simp only[step]at h;generalize a.eval x=v at hd|-;generalize a.eval k=vk at F9|-;generalize x'.ev aY=c at hd h;generalize k'.ev aY=ck at F9 h;split at h
 .rename_i kd j;obtain⟨rfl,_⟩:=bY F9;split at h
  .rename_i cs;obtain⟨vs,rfl,hl,hc⟩:=hd;obtain⟨kk,Ft,g1⟩:=bb.1 h;obtain⟨hj,ax⟩:=nB Ft;obtain⟨l,hr,g2⟩:=bb.1 g1;obtain⟨cv,hm,hK⟩:=bb.1 g2;clear h g1 g2;subst hj;obtain⟨u,eU,cI⟩:=Dm (w:=w) ha hs (cells:=vs.toArray) ⟨by simpa using hl,λi c hi=>by simpa using hc i c hi⟩ hr hm
   refine ec.pure hM (v:=u) ?_ hK cI;have h1:(0:Int)<=(kk:Int)/\(kk:Int)<(n:Int):=om;simp[Instr.index,asIntOf,run_underlying hu,h1,fN hs,ax,eU]
  .exact h.elim
 .exact h.elim
theorem sN(hM:aK ρ m w)(hE:bq ρ w aY a.tmps){mx:Bool}{ts:Array TypeId}{ty:TypeId}{x y:Operand}{x' y':X}(hx:bD x=some x')(hy:bD y=some y')(h:step P (.rz mx [x',y']) aY m K):ec P (do pure (Next.value (<-(if mx then Builtin.max_ ts ty #[a.eval x,a.eval y]else Builtin.min_ ts ty #[a.eval x,a.eval y])))) ρ m w K:=by
 have hd:=aS hE hx;have rd:=aS hE hy;simp only[step]at h;generalize a.eval x=v at hd|-;generalize a.eval y=u at rd|-;generalize x'.ev aY=c at hd h;generalize y'.ev aY=d at rd h;split at h
 .rename_i k p;obtain⟨rfl,_⟩:=bY hd;split at h
  .rename_i k2 q;obtain⟨rfl,_⟩:=bY rd;cases mx
   .refine ec.pure hM (v:= .int k (if q<p then q else p)) ?_ h (cM rfl)
    simp[Builtin.min_,Builtin.min2]
   .refine ec.pure hM (v:= .int k (if q>p then q else p)) ?_ h (cM rfl)
    simp[Builtin.max_,Builtin.max2]
  .exact h.elim
 .exact h.elim
theorem KL(hM:aK ρ m w)(hE:bq ρ w aY a.tmps){s e e2:TypeId}{x:Operand}{x':X}(hs:P.underlying s=some (.slice e))(he:P.underlying e=some (.int .u8))(hx:bD x=some x')(h:step P (.idb x') aY m K):ec P (do pure (Next.value (<-convert s s (a.eval x)))) ρ m w K:=by
 have hd:=aS hE hx;simp only[step]at h;generalize a.eval x=v at hd|-;generalize x'.ev aY=c at hd h;split at h
 .rename_i id e1 lo hi;obtain⟨bk,gv,g1⟩:=bb.1 h;rw[aW]at gv;split at g1
  .rename_i esz rows;rcases cP.1 g1 with⟨ax,hK⟩|⟨_,g2⟩
   case inr=>exact g2.elim
   rw[aaL,aci]at ax;obtain⟨oh,ax⟩:=ax;have oh:=aa1 oh;have hid:id<m.length:=(Lw.1 gv).1;have Up:=hd;obtain⟨d0,d1,d2,d3,d4,ad,hv,wh⟩:=hd;obtain⟨r2,r3,r4,r5,KB⟩:=hM.bk id _ gv;have bv:0<(ρ.aV (.ay id)).cap:=by clear KB;omega
   obtain⟨cur,cn,h1,cD⟩:=KB bv;have ul:=wh (by clear KB;omega)
   obtain⟨ty,fr,mP,tZ,kj,_⟩:=cn;have ahQ:=(abG.1 mP).1;let Y0:Nat×Nat:=if fr.1==fr.2 then(cur.size,cur.size+1)else(min fr.1 cur.size,max fr.2 (cur.size+1))
   let w':World:=w.freeze ⟨(ρ.aV (.ay id)).b,cur.size,none⟩ 1;have VJ:w'.heap[(ρ.aV (.ay id)).b]? =some (.cells cur ty Y0):=by simp[w',World.freeze,ace,mP,Y0]
   have Dy:m8 (esz=1) w' (ρ.aV (.ay id)).b cur:=by
    refine⟨ty,Y0,VJ,?_,λi hi=>?_,.inl oh⟩
    .simp only[Y0];split
     .simp
     .simp only;omega
    .simp only[Y0];split
     .simp;omega
     .rename_i fG;have fG:fr.1≠fr.2:=by simpa using fG
      have h0:cur.size<=fr.1:=by
       rcases aax fr.1 cur.size with q|q
       .have:=kj fr.1 q;simp at this;omega
       .exact q
      simp;omega
   have ht:m9 w w' (ρ.aV (.ay id)).b:=⟨λb hb=>by simp[w',World.freeze,ace,Ne.symm hb],by simp[w',World.freeze],by simp[w',World.freeze],by simp[w',World.freeze],by simp[w',World.freeze]⟩
   obtain⟨nA,hX⟩:=hM.XZ (IF:= .row esz rows) gv ⟨_,gv,aD,λ_=>bv⟩ ht (λg=>⟨r2,r3,r4,r5,λ_=>⟨cur,Dy,h1,λi cs j c hi hj=>by
    obtain⟨u,hu,cI⟩:=cD i cs j c hi hj;exact⟨u,hu,cI.cY g (by rintro _ _ _ e;cases e;exact d0)⟩⟩⟩) (by
    rintro i' j' zE e ⟨es,Uu,Q0,kG,eR,k6⟩;rw[aaj hid]at kG;cases kG;exact⟨esz,rows,Q0,gv,eR,k6⟩)
   have jE:m.set id (.row esz rows)=m:=by
    apply ab4;intro i;rw[abU];split
    .rename_i hi;subst hi
     first|rw[gv]|rw[if_pos hid,gv]
    .rfl
   rw[jE]at nA hX;refine⟨.value v,v,w',_,m,ρ,?_,.inl rfl,hK,nA,Up,hX⟩;have hsh:w.shape? (ρ.aV (.ay id)).b=some (ty,cur.size):=by unfold World.shape?;rw[mP]
   rw[hv,ul];simp[convert,run_underlying hs,run_underlying he,markStringish,hsh];rfl
  .exact g1.elim
 .exact h.elim
end
section
variable {P:Program} {ρ:bX} {m:Mem} {w:World} {aY:List CV} {a:Act} {K:CV->Mem->Prop}
theorem bq.ext{U':bX}{m':Mem}{w':World}{tmps:Array Value}(hM:aK ρ m w)(x:Ext ρ m w U' m' w')(hE:bq ρ w aY tmps):bq U' w' aY tmps:=
 ⟨hE.size,λi c hi=>let⟨v,hv,hd⟩:=hE.lR i c hi;⟨v,hv,cw.ext hM x hd⟩⟩
theorem bq.set{tmps:Array Value}{d:Nat}{c:CV}{v:Value}(hE:bq ρ w aY tmps)(hd:cw ρ w c v):bq ρ w (aY.set d c) (tmps.setIfInBounds d v):=by
 refine⟨by simp[hE.size],λi c' hi=>?_⟩
 by_cases h:d=i
 .subst h;have ax:d<aY.length:=by
   rcases aax d aY.length with h|h
   .exact h
   .rw[abj (by simpa using h)]at hi;cases hi
  rw[aaj ax]at hi;cases hi;exact⟨v,by rw[acA];simp[hE.size,ax],hd⟩
 .rw[aam h]at hi;obtain⟨u,hu,cI⟩:=hE.lR i c' hi;exact⟨u,by rw[acA,if_neg h];exact hu,cI⟩
theorem NN{d:Option Nat}{v:CV}{e:List CV}{K:List CV->Prop}:put d v e K=match d with|none=>K e|some d=>K (e.set d v):=by
 cases d with
 |none=>rfl
 |some d=>simp only[put,YC,fq,bh]
theorem bq.put{d:Option Nat}{c:CV}{v:Value}(hE:bq ρ w aY a.tmps)(hd:cw ρ w c v){K:List CV->Prop}(h:put d c aY K):
  ∃fU,K fU/\bq ρ w fU (a.put d v).tmps/\(a.put d v).defers=a.defers:=by
 rw[NN]at h;cases d with
 |none=>exact⟨aY,h,hE,rfl⟩
 |some d=>exact⟨_,h,hE.set hd,rfl⟩
theorem Gc{o:Oper}{i:I}(hl:xe P o=some i)(vC:∀f xs ts,o.op≠.call {callee:= .value f,args:=xs,argTypes:=ts})(hM:aK ρ m w)(hE:bq ρ w aY a.tmps)(h:step P i aY m K):ec P (execOp a.eval o) ρ m w K:=by
 unfold xe at hl;cases eD:o.op;all_goals rw[eD]at hl
 all_goals try(simp only at hl;cases hl;done)
 case move x=>
  simp only[WE,U2]at hl;obtain⟨x',hx,hl⟩:=hl;cases hl;unfold execOp;rw[eD];exact ec.pure hM rfl h (aS hE hx)
 case assign x=>
  simp only[WE,U2]at hl;obtain⟨x',hx,hl⟩:=hl;cases hl;unfold execOp;rw[eD];exact ec.pure hM rfl h (aS hE hx)
 case pick c x y=>
  simp only[WE,U2]at hl;obtain⟨c',hc,x',hx,y',hy,hl⟩:=hl;cases hl;unfold execOp;rw[eD];exact FY hM hE hc hx hy h
 case alloc t=>
  simp only[WE,U2]at hl;obtain⟨z,hz,hl⟩:=hl;cases hl;unfold execOp;rw[eD];exact Di hM hz h
 case box t x=>
  simp only[WE,U2]at hl;obtain⟨x',hx,hl⟩:=hl;cases hl;unfold execOp;rw[eD];exact Kq hM hE hx h
 case build t ps=>
  simp only[WE,U2]at hl;obtain⟨z,hz,hl⟩:=hl;unfold execOp;rw[eD];split at hl
  .rename_i fs hu;split at hl
   .rename_i gj;simp only[U2]at hl;obtain⟨oy,hp,hl⟩:=hl;cases hl;exact vn hM hE hz (.inl ⟨fs,hu,gj,hp⟩) h
   .cases hl
  .rename_i n e hu;simp only[U2]at hl;obtain⟨sz,hs,oy,hp,hl⟩:=hl;cases hl;exact vn hM hE hz (.inr ⟨n,e,sz,hu,hs,hp⟩) h
  .cases hl
 case buildSlice t n ps=>
  simp only[WE]at hl;unfold execOp;rw[eD];split at hl
  .rename_i e hu;simp only[U2]at hl;obtain⟨z,hz,sz,hs,hl⟩:=hl;split at hl
   .rename_i hc;obtain⟨rfl,h2,h3⟩:=hc;simp only[U2]at hl;obtain⟨oy,hp,hl⟩:=hl;cases hl;exact Kz hM hE hu hz hs h2 h3 hp h
   .cases hl
  .cases hl
 case load t x=>
  simp only[WE,U2]at hl;obtain⟨agg,ha,n,hs,x',hx,hl⟩:=hl;cases hl;unfold execOp;rw[eD];exact FQ hM hE ha hs hx h
 case store t p x=>
  simp only[WE,U2]at hl;obtain⟨n,hs,hl⟩:=hl;split at hl
  .cases hl
  .rename_i hn;simp only[U2]at hl;obtain⟨p',hp,x',hx,hl⟩:=hl;cases hl;unfold execOp;rw[eD];exact Dl hM hE hs hn hp hx h
 case fieldAddr t x k=>
  simp only[WE]at hl;unfold execOp;rw[eD];split at hl
  .rename_i fs hu;simp only[U2]at hl;obtain⟨f,hf,n,hs,hl⟩:=hl;split at hl
   .cases hl
   .rename_i hn;simp only[U2]at hl;obtain⟨x',hx,hl⟩:=hl;cases hl;exact FT hM hE hu hf hs hn hx h
  .cases hl
 case field t x k=>
  simp only[WE]at hl;unfold execOp;rw[eD];split at hl
  .rename_i fs hu;simp only[U2]at hl;obtain⟨f,hf,agg,ha,n,hs,x',hx,hl⟩:=hl;cases hl;exact Kt hM hE hu hf ha hs hx h
  .cases hl
 case indexAddr t x k=>
  simp only[WE]at hl;unfold execOp;rw[eD];split at hl
  .rename_i e hu;simp only[U2]at hl;obtain⟨n,hs,x',hx,k',hk,hl⟩:=hl;cases hl;exact Ku hM hE hu hs hx hk h
  .rename_i len e hu;simp only[U2]at hl;obtain⟨n,hs,x',hx,k',hk,hl⟩:=hl;cases hl;exact FU hM hE hu hs hx hk h
  .cases hl
 case index t x k=>
  simp only[WE]at hl;unfold execOp;rw[eD];split at hl
  .rename_i hu;simp only[U2]at hl;obtain⟨x',hx,k',hk,hl⟩:=hl;cases hl;exact FV hM hE hu hx hk h
  .rename_i n e hu;simp only[U2]at hl;obtain⟨agg,ha,sz,hs,x',hx,k',hk,hl⟩:=hl;cases hl;exact Gb hM hE hu ha hs hx hk h
  .cases hl
 case binOp op t x y yt=>
  simp only[WE]at hl;unfold execOp;rw[eD];split at hl
  .simp only[U2]at hl;obtain⟨x',hx,y',hy,hl⟩:=hl;cases hl;exact Al hM hE hx hy h
  .simp only[U2]at hl;obtain⟨x',hx,y',hy,hl⟩:=hl;cases hl;exact Al hM hE hx hy h
  .rename_i e hu;split at hl
   .simp only[U2]at hl;obtain⟨x',hx,hl⟩:=hl;cases hl;exact xx (neg:=false) hM hE hu hx h
   .simp only[U2]at hl;obtain⟨x',hx,hl⟩:=hl;cases hl;exact xx (neg:=true) hM hE hu hx h
   .cases hl
  .rename_i hu;split at hl
   .simp only[U2]at hl;obtain⟨x',hx,y',hy,hl⟩:=hl;cases hl;exact Am (neg:=false) hM hE hu hx hy h
   .simp only[U2]at hl;obtain⟨x',hx,y',hy,hl⟩:=hl;cases hl;exact Am (neg:=true) hM hE hu hx hy h
   .cases hl
  .rename_i n e hu;split at hl
   .rename_i kk hg hue hs;simp only[U2]at hl;obtain⟨x',hx,y',hy,hl⟩:=hl;cases hl;exact xq (neg:=false) hM hE hu hg hue hs hx hy h
   .rename_i kk hg hue hs;simp only[U2]at hl;obtain⟨x',hx,y',hy,hl⟩:=hl;cases hl;exact xq (neg:=true) hM hE hu hg hue hs hx hy h
   .cases hl
  .rename_i fs hu;split at hl
   .rename_i ks hg hk;simp only[U2]at hl;obtain⟨x',hx,y',hy,hl⟩:=hl;cases hl;exact Ao (neg:=false) hM hE hu hg hk hx hy h
   .rename_i ks hg hk;simp only[U2]at hl;obtain⟨x',hx,y',hy,hl⟩:=hl;cases hl;exact Ao (neg:=true) hM hE hu hg hk hx hy h
   .cases hl
  .cases hl
 case unOp op t x=>
  simp only[WE,U2]at hl;obtain⟨x',hx,hl⟩:=hl;cases hl;unfold execOp;rw[eD];exact Ny hM hE hx h
 case convert s d x=>
  simp only[WE]at hl;unfold execOp;rw[eD];split at hl
  .rename_i hs hd;simp only[U2]at hl;obtain⟨x',hx,hl⟩:=hl;cases hl;exact FW hM hE hs hd hx h
  .rename_i hs hd;simp only[U2]at hl;obtain⟨x',hx,hl⟩:=hl;cases hl;exact Kv hM hE hs hd hx h
  .rename_i e hs hd;split at hl
   .rename_i he;simp only[U2]at hl;obtain⟨x',hx,hl⟩:=hl;cases hl;exact KD hM hE hs he hd hx h
   .cases hl
  .rename_i e hs hd;split at hl
   .rename_i he;simp only[U2]at hl;obtain⟨x',hx,hl⟩:=hl;cases hl;exact KE hM hE hs hd he hx h
   .cases hl
  .rename_i e0 e hs hd;split at hl
   .rename_i hsd he;simp only[U2]at hl;obtain⟨x',hx,hl⟩:=hl;cases hl;have hsd:s=d:=by simpa using hsd
    subst hsd;rw[hs]at hd;cases hd;exact KL (e2:=e0) hM hE hs he hx h
   .cases hl
  .cases hl
 case makeMap t r=>
  dsimp only at hl;unfold execOp;rw[eD];split at hl
  .cases hl;exact vB hM (.inl rfl) h
  .rename_i k n kt et hu;cases hl;exact vB hM (.inr ⟨k,n,kt,et,rfl,hu⟩) h
  .cases hl
 case makeSlice t l c=>
  simp only[WE]at hl;unfold execOp;rw[eD];split at hl
  .rename_i e hu;simp only[U2]at hl;obtain⟨i,hi,z,hz,hl⟩:=hl;split at hl
   .rename_i hc;obtain⟨h1,h2,h3⟩:=hc;simp only[U2]at hl;obtain⟨l',Du,c',sF,hl⟩:=hl;cases hl;exact zH hM hE hu hi hz h1 h2 h3 Du sF h
   .cases hl
  .cases hl
 case lookup t x k b=>
  simp only[WE]at hl;unfold execOp;rw[eD];split at hl
  .rename_i kt vt hu;simp only[U2]at hl;obtain⟨z,hz,kk,hk,x',hx,k',Fs,hl⟩:=hl;cases hl;exact F8 hM hE hu hz hk hx Fs h
  .cases hl
 case mapUpdate t x k v=>
  simp only[WE]at hl;unfold execOp;rw[eD];split at hl
  .rename_i kt vt hu;simp only[U2]at hl;obtain⟨kk,hk,x',hx,k',Fs,v',hv,hl⟩:=hl;cases hl;exact xA hM hE hu hk hx Fs hv h
  .cases hl
 case insert t x k v=>
  simp only[WE]at hl;unfold execOp;rw[eD];split at hl
  .rename_i kt vt hu;simp only[U2]at hl;obtain⟨kk,hk,x',hx,k',Fs,v',hv,hl⟩:=hl;cases hl;exact xA hM hE hu hk hx Fs hv h
  .cases hl
 case makeFunc fn fst eG=>
  unfold execOp;rw[eD];cases fn<;>simp only at hl<;>try(cases hl;done)
  rename_i f;split at hl
  .rename_i hz;simp only[WE,U2]at hl;obtain⟨x',hx,hl⟩:=hl;cases hl;have hf:fst= #[]:=Array.eq_empty_of_size_eq_zero hz;subst hf;exact Nz hM hE hx h
  .cases hl
 case extract x k=>
  simp only[WE,U2]at hl;obtain⟨x',hx,hl⟩:=hl;cases hl;unfold execOp;rw[eD];exact Kw hM hE hx h
 case slice t x lo hi mx=>
  simp only[WE]at hl;unfold execOp;rw[eD];split at hl
  .rename_i e hu;simp only[U2]at hl;obtain⟨n,hs,x',hx,F7,ix,eM,BM,mx',Q4,hl⟩:=hl;cases hl;exact KC hM hE hu hs hx ix BM Q4 h
  .rename_i hu;cases mx<;>simp only at hl
   .simp only[U2]at hl;obtain⟨x',hx,F7,ix,eM,BM,hl⟩:=hl;cases hl;exact F6 hM hE hu hx ix BM h
   .cases hl
  .cases hl
 case nilCheck x=>
  simp only[WE,U2]at hl;obtain⟨x',hx,hl⟩:=hl;cases hl;exact FX hM hE eD hx h
 case call c=>
  obtain⟨callee,args,argTypes⟩:=c;cases callee with
  |value f=>
   exact absurd eD (vC _ _ _)
  |invoke r n=>simp only at hl;cases hl
  |builtin b=>
   cases b<;>simp only at hl<;>try(cases hl;done)
   case len=>
    simp only[WE]at hl;split at hl
    .rename_i x t dR Gd;have e1:args= #[x]:=acu (by simpa using dR)
     have e2:argTypes= #[t]:=acu (by simpa using Gd)
     subst e1 e2;unfold execOp;rw[eD];split at hl
     .rename_i hu;simp only[U2]at hl;obtain⟨x',hx,hl⟩:=hl;cases hl;have:=ue (ty:=o.type) hM hE (.inl ⟨rfl,hu⟩) hx h;unfold ec at this|-;simpa[resolve,invoke,builtin]using this
     .rename_i e hu;simp only[U2]at hl;obtain⟨x',hx,hl⟩:=hl;cases hl;have:=ue (ty:=o.type) hM hE (.inr (.inl ⟨rfl,e,hu⟩)) hx h;unfold ec at this|-;simpa[resolve,invoke,builtin]using this
     .rename_i kt e hu;simp only[U2]at hl;obtain⟨x',hx,hl⟩:=hl;cases hl;have:=ue (ty:=o.type) hM hE (.inr (.inr ⟨rfl,kt,e,hu⟩)) hx h;unfold ec at this|-;simpa[resolve,invoke,builtin]using this
     .cases hl
    .cases hl
   case append=>
    simp only[WE]at hl;split at hl
    .rename_i x y t t2 dR Gd;have e1:args= #[x,y]:=acu (by simpa using dR)
     have e2:argTypes= #[t,t2]:=acu (by simpa using Gd)
     subst e1 e2;unfold execOp;rw[eD];split at hl
     .rename_i e e2 hu VC;simp only[U2]at hl;obtain⟨i,hi,z,hz,hl⟩:=hl;split at hl
      .rename_i hc;obtain⟨h1,h2,h3⟩:=hc;simp only[U2]at hl;obtain⟨x',hx,y',hy,hl⟩:=hl;cases hl;have:=KH (ty:=o.type) hM hE hu VC hi hz h1 h2 h3 hx hy h;unfold ec at this|-;simpa[resolve,invoke,builtin]using this
      .cases hl
     .cases hl
    .cases hl
   case min=>
    simp only[WE]at hl;split at hl
    .rename_i x y dR;have e1:args= #[x,y]:=acu (by simpa using dR)
     subst e1;unfold execOp;rw[eD];simp only[U2]at hl;obtain⟨x',hx,y',hy,hl⟩:=hl;cases hl;have:=sN (mx:=false) (ts:=argTypes) (ty:=o.type) hM hE hx hy h;unfold ec at this|-;simpa[resolve,invoke,builtin]using this
    .cases hl
   case max=>
    simp only[WE]at hl;split at hl
    .rename_i x y dR;have e1:args= #[x,y]:=acu (by simpa using dR)
     subst e1;unfold execOp;rw[eD];simp only[U2]at hl;obtain⟨x',hx,y',hy,hl⟩:=hl;cases hl;have:=sN (mx:=true) (ts:=argTypes) (ty:=o.type) hM hE hx hy h;unfold ec at this|-;simpa[resolve,invoke,builtin]using this
    .cases hl
   case copy=>
    simp only[WE]at hl;split at hl
    .rename_i x y t t2 dR Gd;have e1:args= #[x,y]:=acu (by simpa using dR)
     have e2:argTypes= #[t,t2]:=acu (by simpa using Gd)
     subst e1 e2;unfold execOp;rw[eD];split at hl
     .rename_i e hu;simp only[U2]at hl;obtain⟨i,hi,z,hz,hl⟩:=hl;split at hl
      .rename_i hc;simp only[U2]at hl;obtain⟨x',hx,y',hy,hl⟩:=hl;cases hl;have:=Ga (ty:=o.type) (t2:=t2) hM hE hu hi hz hc hx hy h;unfold ec at this|-;simpa[resolve,invoke,builtin]using this
      .cases hl
     .cases hl
    .cases hl
   case clear=>
    simp only[WE]at hl;split at hl
    .rename_i x t dR Gd;have e1:args= #[x]:=acu (by simpa using dR)
     have e2:argTypes= #[t]:=acu (by simpa using Gd)
     subst e1 e2;unfold execOp;rw[eD];split at hl
     .rename_i e hu;simp only[U2]at hl;obtain⟨i,hi,z,hz,hl⟩:=hl;split at hl
      .rename_i hc;simp only[U2]at hl;obtain⟨x',hx,hl⟩:=hl;cases hl;have:=KJ (ty:=o.type) hM hE hu hi hz hc hx h;unfold ec at this|-;simpa[resolve,invoke,builtin]using this
      .cases hl
     .cases hl
    .cases hl
end
end Go.AM
