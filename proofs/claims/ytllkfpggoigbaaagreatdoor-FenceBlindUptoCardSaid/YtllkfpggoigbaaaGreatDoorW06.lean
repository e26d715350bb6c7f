/- Part 6 of 23. -/
import Derived.Test.YtllkfpggoigbaaaGreatDoorW03
import Derived.Test.YtllkfpggoigbaaaGreatDoorW04
import Derived.Test.YtllkfpggoigbaaaGreatDoorW05
import Derived.Laws.IdiomStrings
import Derived.Laws.MakeOwn
import Derived.MapKept
set_option linter.unusedVariables false
set_option linter.unusedSimpArgs false
set_option linter.unnecessarySimpa false
set_option maxRecDepth 100000
set_option maxHeartbeats 0
namespace Go.AM
open Go.MapKept
section
variable {P:Program} {ρ:b9} {m:Mem} {w:World} {ba:List CV} {a:Act} {K:CV->Mem->Prop}
theorem A5:∀{E:List (List CC)}{xs:List Int},xX E=some xs->E=xs.map λn=>[.ai (.val (.int .u8 n))]
 | [],xs,h=>by simp[xX]at h;subst h;rfl
 |cs::r,xs,h=>by
  unfold xX at h;split at h
  .rename_i heq;cases heq
  .rename_i n r' heq;cases heq;split at h
   .rename_i l hl;cases h;rw[A5 hl];rfl
   .cases h
  .cases h
theorem Ls(hM:aN ρ m w)(hE:bu ρ w ba a.tmps){s d e:TypeId}{x:Operand}{x':X}(hs:P.underlying s=some (.slice e))(he:P.underlying e=some (.int .u8))(hd:P.underlying d=some .string)(hx:bG x=some x')(h:step P (.b2s x') ba m K):eM P (do pure (Next.value (<-convert s d (a.eval x)))) ρ m w K:=by
 have cL:=aU hE hx;simp only[step]at h;obtain⟨E,Cj,h⟩:=be.1 h;obtain⟨xs,Zl,hK⟩:=be.1 h;obtain⟨ad,cap,vs,hv,h1,h2,F⟩:=o4 hM Cj cL;have hEx:=A5 Zl;have Gc:∀i,i<xs.length->vs[i]? =some (.int .u8 (xs.getD i 0)):=by
  intro i hi;have hg:E[i]? =some [.ai (.val (.int .u8 xs[i]))]:=by rw[hEx,Rn,xm hi];rfl
  obtain⟨u,hu,cP⟩:=F.mB i _ 0 _ hg rfl;cases cP with
  |val v hp=>
   rw[show i=i*1+0 by omega,hu]
   simp[List.getD,xm hi]
 have hlen:E.length=xs.length:=by rw[hEx];simp
 refine eM.pure hM (v:= .string (strOfNums xs)) ?_ hK (cS rfl);rw[hv,Sem.run_bind];rcases acO E.length with h0|h0
 .have hx0:xs=[]:=aaW om;subst hx0;rw[h0];cases ad with
  |none=>rw[run_convert_bytes_nil (P:=P) w s e hs he 0 cap d hd];rfl
  |some ad=>
   obtain⟨b,off,sp⟩:=ad;have:(convert s d (.slice (some ⟨b,off,sp⟩) 0 cap)).run P w= .ok (.string (strOfNums [])) w:=by
    rw[run_convert_bytes_string w s d e _ 0 cap hs he hd,run_bytesToString w _ 0 cap [] (by simp[loadCells,loadCellsFrom])]
    rfl
   rw[this];rfl
 .obtain⟨b,off,rfl,hc⟩:=F.Oy h0;rw[run_convert_bytes_arg (P:=P) w s e hs he b off E.length cap xs hlen.symm (λi hi=>hc i _ (Gc i om)) d hd]
  rfl
theorem tv(hM:aN ρ m w){esz cap:Nat}{elems:List (List CC)}{cells:Array Value}{w':World}(Vq:fu w w')(cC:nN (esz=1) w' w.heap.size cells)(eu:cap*esz<=cells.size)(hlen:elems.length<=cap)(bF:cap<=maxLen)(oR:∀cs,cs∈elems->cs.length=esz)(hd:∀(i:Nat)cs(j:Nat)c,elems[i]? =some cs->cs[j]? =some c->∃u,cells[i*esz+j]? =some u/\bJ ρ w .none c u):
  ∃U',aN U' (m++ [.row esz elems]) w'/\Ext ρ m w U' (m++ [.row esz elems]) w'/\
   cG U' w' (.rv (.one (.row m.length esz 0 none))) (.slice (some ⟨w.heap.size,0,none⟩) elems.length cap):=by
 have ay:w.heap.size<w'.heap.size:=cC.lt;let l:Ag:=⟨w.heap.size,0,elems.length,cap⟩;have hn:=hM.n;have da:(ρ.push l).aW (.aA m.length)=l:=by rw[<-hn];exact ρ.lg l
 have g:j7 ρ w (ρ.push l) w':=⟨by simp[b9.push],λk hk=>ρ.fP l hk,λb hb=>hb,λb hb=>Vq.heap b (hM.S b hb)⟩
 have hb:ft (ρ.push l) w' m.length (.row esz elems):=by
  refine⟨by rw[da],by rw[da];exact hlen,by rw[da];exact bF,oR,λ_=>⟨cells,by rw[da];exact cC,by rw[da];simpa[l]using eu,λi cs j c hi hj=>?_⟩⟩
  obtain⟨u,hu,cP⟩:=hd i cs j c hi hj;exact⟨u,by rw[da];simpa[l]using hu,(cP.dg g aG).x9 _⟩
 obtain⟨h1,h2⟩:=hM.push (l:=l) Vq (aah _) ay hb (λi cs j c hi hj=>by obtain⟨u,hu,cP⟩:=hd i cs j c hi hj;exact cP.Cc)
 refine⟨_,h1,h2,by simp[b9.push,hn],?_⟩
 rw[da];refine⟨aG,aG,hlen,bF,_,rfl,λ_=>?_⟩
 simp[l]
theorem Lt(hM:aN ρ m w)(hE:bu ρ w ba a.tmps){s d e:TypeId}{x:Operand}{x':X}(hs:P.underlying s=some .string)(hd:P.underlying d=some (.slice e))(he:P.underlying e=some (.int .u8))(hx:bG x=some x')(h:step P (.s2b x') ba m K):eM P (do pure (Next.value (<-convert s d (a.eval x)))) ρ m w K:=by
 have cL:=aU hE hx;simp only[step]at h;generalize a.eval x=v at cL|-;generalize x'.ev ba=c at cL h;split at h
 .rename_i str;obtain⟨rfl,hp⟩:=cf cL;obtain⟨eu,hK⟩:=h;rw[kZ,cw]at hK;have eO:=grownCap_ge w str.size 0 e;have hle:grownCap w str.size 0 e<=maxLen:=grownCap_le_maxLen w _ 0 e (by unfold maxLen;omega)
  have fF:(bytesRow str (grownCap w str.size 0 e)).size=grownCap w str.size 0 e:=by simp only[bytesRow,Array.size_append,Array.size_map,Array.size_replicate];have:str.data.size=str.size:=rfl;omega
  have hlen:(so str).length=str.size:=by simp[so]
  obtain⟨U',g1,g2,g3⟩:=tv hM (esz:=1) (cap:=grownCap w str.size 0 e) (elems:=so str) (cells:=bytesRow str (grownCap w str.size 0 e))
   (w':=w.drew.alloc (.cells (bytesRow str (grownCap w str.size 0 e)) e ((bytesRow str (grownCap w str.size 0 e)).size,(bytesRow str (grownCap w str.size 0 e)).size+1)))
   ((fu.drew w).trans (fu.alloc w.drew _)) ⟨e,_,heap_alloc_new w.drew _,aG,(λi hi=>by simp;omega),.inl rfl⟩ (by rw[fF];omega) (by rw[hlen];exact eO) hle
   (λcs fF=>by simp only[so,abm]at fF;obtain⟨_,_,rfl⟩:=fF;rfl)
   (λi cs j c hi hj=>by
    simp only[so,Rn]at hi;obtain⟨b,hb,rfl⟩:=aba.1 hi;cases j with
    |zero=>
     simp at hj;subst hj;refine⟨.int .u8 b.toNat,?_,.val _ rfl⟩;have uY:str.data[i]? =some b:=by simpa using hb
     have ay:=(abG.1 uY).1;simp only[bytesRow,Nat.mul_one,aeo];rw[ad1 (by simpa using ay),afi,uY]
     rfl
    |succ j=>simp at hj)
  rw[hlen]at g3;exact⟨_,_,_,_,_,U',by rw[Sem.run_bind,run_bytes_of_string w s d e str hs hd he];rfl,.inl rfl,hK,g1,g3,g2⟩
 .exact h.elim
theorem Am(hM:aN ρ m w)(hE:bu ρ w ba a.tmps){t e:TypeId}{i:TypeInfo}{z:List CC}{x y:Operand}{x' y':X}(ht:P.underlying t=some (.slice e))(hi:P.info? e=some i)(hz:eV P e=some z)(eu:i.size=z.length)(dQ:0<z.length)(hb:0<i.bytes)(hx:bG x=some x')(hy:bG y=some y')(h:step P (.xx i.size i.bytes z x' y') ba m K):eM P (do pure (Next.value (<-Instr.makeSlice t (a.eval x) (a.eval y)))) ρ m w K:=by
 simp only[step]at h;obtain⟨l,hl,h⟩:=be.1 h;obtain⟨c,hc,h⟩:=be.1 h;rcases cU.1 h with⟨uK,h⟩|⟨_,h⟩
 case inr=>exact h.elim
 have uK:l=c:=aaX uK;subst uK;obtain⟨lX,hK⟩:=h;rw[kZ,cw]at hK;have nat:∀{c:CV}{v:Value}{k:Nat},pV c=some k->cG ρ w c v->∃kd,v= .int kd (k:Int):=by
  intro c v k h hd;unfold pV at h;split at h
  .cases h;obtain⟨rfl,_⟩:=cf hd;exact⟨_,rfl⟩
  .cases h
 obtain⟨kl,wv⟩:=nat hl (aU hE hx);obtain⟨kc,hvc⟩:=nat hc (aU hE hy);have DF:=hz;simp only[eV,XX,V3]at DF;obtain⟨i',fm,zv,SK,SH⟩:=DF;rw[hi]at fm;cases fm;obtain⟨OE,WT⟩:=fQ (ρ:=ρ) (w:=w) SH;have Sa:zv.cells.size=z.length:=by simpa using OE
 have s8:l<=140737488355328:=abK (aeu _ hb) lX;obtain⟨U',g1,g2,g3⟩:=tv hM (esz:=i.size) (cap:=l) (elems:=iu l z) (cells:=madeCells zv.cells (l*i.size)) (w':=w.alloc (.cells (madeCells zv.cells (l*i.size)) e))
  (fu.alloc w _) (nN.new w _ e) (by rw[size_madeCells];exact aah _) (by rw[gn];simp) (by unfold maxLen;omega)
  (λcs fF=>by rw[gn]at fF;rw[adX fF,eu])
  (λk cs j cc hk hj=>by
   rw[gn]at hk;have lP:=(Mp.1 hk).1;simp at lP;have fF:cs=z:=by have:=Wm hk;exact adX this
   subst fF;have DG:=(Mp.1 hj).1;obtain⟨u,hu,cP⟩:=WT j cc hj;refine⟨u,?_,cP⟩;have ay:k*i.size+j<l*i.size:=by have:(k+1)*i.size<=l*i.size:=acr _ lP;rw[ade,adG]at this;omega
   simp only[madeCells,afi,Array.getElem?_range];rw[if_pos ay];simp only[aaS,abi];have hm:(k*i.size+j)%zv.cells.size=j:=by rw[Sa,eu,aep,afN,afG DG]
   rw[hm];have xb:zv.cells[j]? =some u:=by simpa using hu
   rw[getElem!_def,xb])
 have Zp:(iu l z).length=l:=by rw[gn];simp
 rw[Zp]at g3;refine⟨_,_,_,_,_,U',?_,.inl rfl,hK,g1,g3,g2⟩;rw[wv,hvc,Sem.run_bind,run_make (P:=P) w t e i zv ht hi SK kl kc (l:Int) (l:Int) om (afh _) ?_ om]
 .rfl
 .have:i.bytes*l<=140737488355328:=by rw[aep];exact lX
  have h2:((i.bytes*l:Nat):Int)<=((140737488355328:Nat):Int):=Int.ofNat_le.2 this;rw[Int.natCast_mul]at h2;exact Int.le_trans h2 om
def lD:Ky->TypeDesc
 | .i k=>.int k
 | .s=>.string
 | .b=>.bool
theorem A6{t:TypeId}{kk:Ky}(h:Lb P t=some kk):P.underlying t=some (lD kk):=by
 unfold Lb at h;split at h<;>simp at h<;>subst h<;>assumption
theorem D6{kk:Ky}{v:Value}(h:Ai kk v=true):IsKey (lD kk) v:=by
 cases kk<;>cases v<;>simp_all[Ai,IsKey,lD]
theorem A7{kk:Ky}{a b:Value}{t:Bool}(ha:Ai kk a=true)(h:rP a b=some t):Instr.sameNow (lD kk) a b=some t/\(t=true->a=b)/\(t=false->a≠b):=by
 cases kk<;>cases a<;>simp[Ai]at ha<;>cases b<;>simp only[rP,reduceCtorEq]at h
 .rename_i k x k' y;split at h
  .rename_i hk;have hk:=of_decide_eq_true hk;subst hk;cases h;refine⟨by simp[Instr.sameNow,lD],λh=>by simp at h;rw[h],λh=>by simp at h;simpa using h⟩
  .cases h
 .rename_i x y;cases h;refine⟨by simp[Instr.sameNow,lD],λh=>by rw[(bytes_beq _ _).1 h],λh e=>?_⟩
  cases e;rw[(bytes_beq _ _).2 rfl]at h;cases h
 .rename_i x y;cases h;refine⟨by simp[Instr.sameNow,lD],λh=>by simp at h;rw[h],λh=>by simp at h;simpa using h⟩
theorem ww{kk:Ky}{kv:Value}(hk:Ai kk kv=true):∀(es:List ME)(fH:List MapEntry)(n:Nat)(o:Option RV),fH.length=es.length->
  (∀(i:Nat)e,es[i]? =some e->∃e',fH[i]? =some e'/\e'.key=e.key/\eU ρ w e.val e'.val)->ti kv es=some o->
  match o with
  |none=>Instr.findNow (lD kk) kv fH n=some none
  |some r=>∃j v,Instr.findNow (lD kk) kv fH n=some (some (n+j,v))/\eU ρ w r v
 | [],[],n,o,_,_,h=>by simp[ti]at h;subst h;rfl
 | [],_::_,_,_,h,_,_=>by simp at h
 |_::_,[],_,_,h,_,_=>by simp at h
 |e::es,e'::fH,n,o,hl,hr,h=>by
  obtain⟨e0,h0,pY,cL⟩:=hr 0 e rfl;simp at h0;subst h0;simp only[ti]at h;cases hq:rP kv e.key with
  |none=>rw[hq]at h;cases h
  |some t=>
   obtain⟨q1,q2,q3⟩:=A7 hk hq;rw[<-pY]at q1;cases t with
   |true=>
    rw[hq]at h;cases h;exact⟨0,e'.val,by simp[Instr.findNow,q1],cL⟩
   |false=>
    rw[hq]at h;have ih:=ww hk es fH (n+1) o (by simpa using hl) (λi x hx=>by simpa using hr (i+1) x (by simpa using hx)) h
    cases o with
    |none=>simpa[Instr.findNow,q1]using ih
    |some r=>
     obtain⟨j,v,h1,h2⟩:=ih;exact⟨j+1,v,by simp[Instr.findNow,q1,h1];omega,h2⟩
theorem yh{kk:Ky}{kv:Value}(hk:Ai kk kv=true)(r:RV):∀(es:List ME)(fH:List MapEntry)(n:Nat)(l:List ME),fH.length=es.length->
  (∀(i:Nat)e,es[i]? =some e->∃e',fH[i]? =some e'/\e'.key=e.key/\eU ρ w e.val e'.val)->B8 kv r es=some l->
  (Instr.findNow (lD kk) kv fH n=some none/\l=es++ [⟨kv,r⟩])\/∃j e',Instr.findNow (lD kk) kv fH n=some (some (n+j,e'.val))/\fH[j]? =some e'/\e'.key=kv/\l=es.set j ⟨kv,r⟩
 | [],[],n,o,_,_,h=>by simp[B8]at h;subst h;exact .inl ⟨rfl,rfl⟩
 | [],_::_,_,_,h,_,_=>by simp at h
 |_::_,[],_,_,h,_,_=>by simp at h
 |e::es,e'::fH,n,o,hl,hr,h=>by
  obtain⟨e0,h0,pY,cL⟩:=hr 0 e rfl;simp at h0;subst h0;simp only[B8]at h;cases hq:rP kv e.key with
  |none=>rw[hq]at h;cases h
  |some t=>
   obtain⟨q1,q2,q3⟩:=A7 hk hq;rw[<-pY]at q1;cases t with
   |true=>
    rw[hq]at h;cases h;exact .inr ⟨0,e',by simp[Instr.findNow,q1],rfl,by rw[pY,q2 rfl],rfl⟩
   |false=>
    rw[hq]at h;simp only at h;split at h
    .rename_i l' D7;cases h;rcases yh hk r es fH (n+1) l' (by simpa using hl) (λi x hx=>by simpa using hr (i+1) x (by simpa using hx)) D7 with⟨h1,rfl⟩|⟨j,e1,h1,h2,h3,rfl⟩
     .exact .inl ⟨by simpa[Instr.findNow,q1]using h1,rfl⟩
     .exact .inr ⟨j+1,e1,by simp[Instr.findNow,q1,h1];omega,by simpa using h2,h3,rfl⟩
    .cases h
theorem wx(hM:aN ρ m w){t:TypeId}{r:Option Value}(hr:r=none\/∃k n kt et,r=some (.int k n)/\P.underlying t=some (.map kt et))(h:step P .DQ ba m K):eM P (do pure (Next.value (<-Instr.makeMap t r))) ρ m w K:=by
 simp only[step,kZ,cw]at h;let l:Ag:=⟨w.heap.size,0,0,0⟩;have hn:=hM.n;have da:(ρ.push l).aW (.aA m.length)=l:=by rw[<-hn];exact ρ.lg l
 obtain⟨h1,h2⟩:=hM.push (bk:= .mp []) (l:=l) (fu.alloc w (.map #[] 0)) (aah _) (by simp[l]) (by refine⟨#[],0,?_,rfl,aG⟩;rw[da];exact(heap_alloc w _).1) trivial
 refine⟨.value (.map (some w.heap.size)),.map (some w.heap.size),w.alloc (.map #[] 0),_,_,_,?_,.inl rfl,h,h1,⟨by simp[b9.push,hn],by rw[da]⟩,h2⟩
 rcases hr with rfl|⟨k,n,kt,et,rfl,ht⟩
 .simp[Instr.makeMap]
 .simp[Instr.makeMap,run_underlying ht,asInt,asIntOf]
theorem Lu{t:TypeId}{z:RV}(h:Jf P t=some z):∃v,(zeroValue t).run P w= .ok v w/\eU ρ w z v:=by
 simp only[Jf,XX,V3]at h;obtain⟨i,hi,zv,SK,h⟩:=h;refine⟨zv,by simp[zeroValue,typeInfo,hi,SK],?_⟩
 split at h
 .rename_i cs;simp only[V3]at h;obtain⟨zz,hz,h⟩:=h;cases h;obtain⟨h1,h2⟩:=fQ (ρ:=ρ) (w:=w) hz;exact⟨cs.toList,aG,h1,h2⟩
 .simp only[V3]at h;obtain⟨c,hc,h⟩:=h;cases h;exact sq hc
theorem D8(hM:aN ρ m w){c:CV}{v:Value}{es:List ME}(h:Oc m c=some es)(hd:cG ρ w c v):
  (v= .map none/\es=[])\/∃b fH clock,v= .map (some b)/\w.heap[b]? =some (.map fH clock)/\Gq ρ w es fH:=by
 unfold Oc at h;split at h
 .rename_i id;split at h
  .rename_i es0 hb;cases h;rw[aX]at hb;obtain⟨ay,rfl⟩:=hd;obtain⟨fH,clock,h1,h2⟩:=hM.bk id _ hb;exact .inr ⟨_,fH,clock,rfl,h1,h2⟩
  .cases h
 .cases h;obtain⟨rfl,_⟩:=cf hd;exact .inl ⟨rfl,rfl⟩
 .cases h
theorem GS(hM:aN ρ m w)(hE:bu ρ w ba a.tmps){t kt vt:TypeId}{z:RV}{kk:Ky}{x k:Operand}{x' k':X}{b:Bool}(ht:P.underlying t=some (.map kt vt))(hz:Jf P vt=some z)(hk:Lb P kt=some kk)(hx:bG x=some x')(Lv:bG k=some k')(h:step P (.SA z kk x' k' b) ba m K):eM P (do pure (Next.value (<-Instr.lookup t (a.eval x) (a.eval k) b))) ρ m w K:=by
 have Zq:=aU hE hx;have GU:=aU hE Lv;simp only[step]at h;generalize a.eval x=xv at Zq|-;generalize a.eval k=kv at GU|-;generalize k'.ev ba=kc at GU h;split at h
 .rename_i aeL;rcases cU.1 h with⟨k7,h⟩|⟨_,h⟩
  case inr=>exact h.elim
  obtain⟨rfl,WU⟩:=cf GU (λe=>by subst e;cases kk<;>simp[Ai]at k7)
  obtain⟨es,oR,h⟩:=be.1 h;obtain⟨o,ho,hK⟩:=be.1 h;have Lw:=A6 hk;have pY:=D6 k7;obtain⟨zv,Z2,WT⟩:=Lu (ρ:=ρ) (w:=w) hz;have mB:∀(v:Value)(r:RV)(t:Bool),eU ρ w r v->(b=true->cG ρ w (.bI [r,.one (.ai (.val (.bool t)))]) (.tuple #[v,.bool t])):=λv r t hv _=>
   ⟨[v,.bool t],rfl,rfl,λi r' hi=>by
    match i,hi with
    |0,hi=>cases hi;exact⟨v,rfl,hv⟩
    |1,hi=>cases hi;exact⟨_,rfl,.val _ rfl⟩⟩
  have go:∀(r:Option Nat)(fH:List MapEntry)(em:Bool),(∀(o':Option (Nat×Value)),Instr.findNow (lD kk) kv fH 0=some o'->
    (Instr.lookup t (.map r) kv b).run P w=((match o' with|some (_,v)=>(Pure.pure (v,true):Sem (Value×Bool))|none=>(do pure (<-zeroValue vt,false))).run P w).andThen λp w'=>.ok (if b then .tuple #[p.1,.bool p.2]else p.1) w')->
    (fH.length=es.length/\∀(i:Nat)e,es[i]? =some e->∃e',fH[i]? =some e'/\e'.key=e.key/\eU ρ w e.val e'.val)->eM P (do pure (Next.value (<-Instr.lookup t (.map r) kv b))) ρ m w K:=by
   intro r fH em fv yi;have hf:=ww (ρ:=ρ) (w:=w) k7 es fH 0 o yi.1 yi.2 ho;cases o with
   |none=>
    have h1:=fv none hf;simp only[Sem.run_bind,Z2,Result.andThen_ok,Sem.run_pure]at h1;cases b with
    |false=>exact eM.pure hM (v:=zv) (by rw[Sem.run_bind,h1];rfl) hK WT
    |true=>exact eM.pure hM (v:= .tuple #[zv,.bool false]) (by rw[Sem.run_bind,h1];rfl) hK (mB zv z false WT rfl)
   |some r=>
    obtain⟨j,v,hf,hv⟩:=hf;have h1:=fv _ hf;simp only[Sem.run_pure,Result.andThen_ok]at h1;cases b with
    |false=>exact eM.pure hM (v:=v) (by rw[Sem.run_bind,h1];rfl) hK hv
    |true=>exact eM.pure hM (v:= .tuple #[v,.bool true]) (by rw[Sem.run_bind,h1];rfl) hK (mB v r true hv rfl)
  rcases D8 hM oR Zq with⟨rfl,rfl⟩|⟨r,fH,clock,rfl,hb,hl,hr⟩
  .refine go none [] true (λo' eH=>?_) ⟨rfl,aG⟩
   cases o' with
   |none=>cases b<;>simp[Instr.lookup,run_underlying ht,run_checkKey Lw pY,run_findKey Lw eH,Result.andThen,Z2]
   |some p=>cases b<;>simp[Instr.lookup,run_underlying ht,run_checkKey Lw pY,run_findKey Lw eH,Result.andThen]
  .refine go (some r) fH.toList fH.isEmpty (λo' eH=>?_) ⟨by simpa using hl,λi e he=>by
     obtain⟨e',h1,h2⟩:=hr i e he;exact⟨e',by simpa using h1,h2⟩⟩
   cases o' with
   |none=>cases b<;>simp[Instr.lookup,run_underlying ht,Go.MapKept.run_getObj_map hb,run_checkKey Lw pY,run_findKey Lw eH,Result.andThen,Z2]
   |some p=>cases b<;>simp[Instr.lookup,run_underlying ht,Go.MapKept.run_getObj_map hb,run_checkKey Lw pY,run_findKey Lw eH,Result.andThen]
 .exact h.elim
theorem OF{c:CV}{v:Value}{r:RV}(h:Gr c=some r)(hd:cG ρ w c v):eU ρ w r v:=by
 unfold Gr at h;split at h
 .cases h;exact hd
 .cases h
theorem yj(hM:aN ρ m w)(hE:bu ρ w ba a.tmps){t kt vt:TypeId}{kk:Ky}{x k v:Operand}{x' k' v':X}(ht:P.underlying t=some (.map kt vt))(hk:Lb P kt=some kk)(hx:bG x=some x')(Lv:bG k=some k')(hvx:bG v=some v')(h:step P (.SB kk x' k' v') ba m K):eM P (do Instr.mapUpdate t (a.eval x) (a.eval k) (a.eval v);pure Next.skip) ρ m w K:=by
 have Zq:=aU hE hx;have GU:=aU hE Lv;have z8:=aU hE hvx;simp only[step]at h;generalize a.eval x=xv at Zq|-;generalize a.eval k=kv at GU|-;generalize a.eval v=vv at z8|-;generalize x'.ev ba=xc at Zq h;split at h
 .rename_i id;generalize k'.ev ba=kc at GU h;split at h
  .rename_i aeL;rcases cU.1 h with⟨k7,h⟩|⟨_,h⟩
   case inr=>exact h.elim
   obtain⟨rfl,WU⟩:=cf GU (λe=>by subst e;cases kk<;>simp[Ai]at k7)
   obtain⟨bk,gV,h⟩:=be.1 h;rw[aX]at gV;cases bk<;>simp only at h
   rename_i es;obtain⟨r,hr,h⟩:=be.1 h;obtain⟨l,hl,hK⟩:=be.1 h;rw[br]at hK;have Lw:=A6 hk;have pY:=D6 k7;have Zr:=OF hr z8;obtain⟨ay,rfl⟩:=Zq;obtain⟨fH,clock,hb,eu,yi⟩:=hM.bk id _ gV;have aai:∀o,nR w {w with heap:=w.heap.setIfInBounds (ρ.aW (.aA id)).b o} (ρ.aW (.aA id)).b:=λo=>
    ⟨λb gj=>(heap_set (o':=o) hb).2 b gj,aG,rfl,rfl,rfl⟩
   have dj:Live ρ m (.aA id):=⟨_,gV,aG,by rintro⟨_,_,e⟩;cases e⟩
   have gU:∀(Zs:Array MapEntry)(yk:Nat),(Instr.mapUpdate t (.map (some (ρ.aW (.aA id)).b)) kv vv).run P w= .ok () {w with heap:=w.heap.setIfInBounds (ρ.aW (.aA id)).b (.map Zs yk)}->
     (j7 ρ w ρ {w with heap:=w.heap.setIfInBounds (ρ.aW (.aA id)).b (.map Zs yk)}->Gq ρ {w with heap:=w.heap.setIfInBounds (ρ.aW (.aA id)).b (.map Zs yk)} l Zs)->eM P (do Instr.mapUpdate t (.map (some (ρ.aW (.aA id)).b)) kv vv;pure Next.skip) ρ m w K:=by
    intro Zs yk fv hmr;obtain⟨oq,hX⟩:=hM.Zj (Jm:= .mp l) gV dj (aai _) (λg=>⟨Zs,yk,(heap_set hb).1,hmr g⟩) (by
     rintro i' j' esz e ⟨es3,rows,R3,lY,_,_⟩;rw[aal (by rw[<-hM.n];exact ay)]at lY
     cases lY)
    refine⟨.skip,Go.undef,_,.undef,_,ρ,?_,.inr ⟨rfl,rfl⟩,hK,oq,rfl,hX⟩;rw[Sem.run_bind,fv];rfl
   rcases yh (ρ:=ρ) (w:=w) k7 r es fH.toList 0 l (by simpa using eu) (λi e he=>by
     obtain⟨e',h1,h2⟩:=yi i e he;exact⟨e',by simpa using h1,h2⟩) hl with⟨hf,rfl⟩|⟨j,e',hf,hj,sB,rfl⟩
   .refine gU (fH.push {key:=kv,val:=vv,born:=clock}) (clock+1) ?_ λg=>⟨by simp[eu],λi e he=>?_⟩
    .simp[Instr.mapUpdate,run_underlying ht,Go.MapKept.run_getObj_map hb,run_checkKey Lw pY,run_findKey Lw hf,run_setObj_map _ hb,Result.andThen]
    .rcases aaD i es.length with h1|h1
     .rw[aaM h1]at he;obtain⟨e',h2,h3,h4⟩:=yi i e he;exact⟨e',by rw[Array.getElem?_push,if_neg om];exact h2,h3,h4.dg g⟩
     .have hi:=(Mp.1 he).1;simp at hi;have iD:i=es.length:=om;subst iD;simp at he;subst he;exact⟨_,by rw[Array.getElem?_push,if_pos eu.symm],rfl,Zr.dg g⟩
   .have su:fH[j]? =some e':=by simpa using hj
    have bV:=(abG.1 su).1;refine gU (fH.modify j λe=>{e with key:=kv,val:=vv}) clock ?_ λg=>⟨by simp[eu],λi e he=>?_⟩
    .rw[acA]at hf;simp[Instr.mapUpdate,run_underlying ht,Go.MapKept.run_getObj_map hb,run_checkKey Lw pY,run_findKey Lw hf,run_setObj_map _ hb,Result.andThen,su,sB,run_keyThatStays pY]
    .rw[acy]at he;by_cases tw:j=i
     .subst tw;rw[if_pos rfl,if_pos om]at he;cases he;exact⟨{e' with key:=kv,val:=vv},by rw[ads,if_pos rfl,su];rfl,rfl,Zr.dg g⟩
     .rw[if_neg tw]at he;obtain⟨e2,h2,h3,h4⟩:=yi i e he;exact⟨e2,by rw[ads,if_neg tw];exact h2,h3,h4.dg g⟩
  .exact h.elim
 .exact h.elim
end
end Go.AM
namespace Go.AM
section
variable {P:Program} {ρ:b9} {m:Mem} {w:World} {ba:List CV} {a:Act} {K:CV->Mem->Prop}
theorem ym{α:Type}{l:List α}{h:Nat}{E:List α}(hle:h+E.length<=l.length):(dm l h E).length=l.length:=by simp[dm];omega
theorem sC{α:Type}{l:List α}{h:Nat}{E:List α}(hle:h+E.length<=l.length)(i:Nat):(dm l h E)[i]? =if h<=i/\i<h+E.length then E[i-h]? else l[i]? :=by
 have hl:(l.take h).length=h:=by simp;omega
 simp only[dm];rcases aaD i h with h1|h1
 .rw[aaM om,if_neg om,abI,if_pos h1]
 .rw[aaO om,hl];rcases aaD (i-h) E.length with h2|h2
  .rw[aaM h2,if_pos om]
  .rw[aaO h2,if_neg om,adi];congr 1;omega
theorem bJ.OG{c:CC}{v:Value}{pos:Option (Nat×Nat×Nat)}(hc:c.kj=true)(h:bJ ρ w pos c v):bJ ρ w .none c v:=by
 cases c<;>first|exact h|simp[CC.kj]at hc
theorem u3(hM:aN ρ m w){id esz h:Nat}{rows E:List (List CC)}{vs:List Value}(hb:m[id]? =some (.row esz rows))(hle:h+E.length<=rows.length)(dQ:0<rows.length)(hE:∀cs,cs∈E->cs.length=esz)(wv:vs.length=E.length*esz)(aeM:∀u,u∈vs->u.oneCell'=true)(cL:∀(i:Nat)cs(j:Nat)c,E[i]? =some cs->cs[j]? =some c->∃u,vs[i*esz+j]? =some u/\bJ ρ w .none c u):
  ∃w',(storeCells ⟨(ρ.aW (.aA id)).b,(ρ.aW (.aA id)).aB+h*esz,none⟩ vs).run P w= .ok () w'/\aN ρ (m.set id (.row esz (dm rows h E))) w'/\Ext ρ m w ρ (m.set id (.row esz (dm rows h E))) w':=by
 have hid:id<m.length:=(Mp.1 hb).1;obtain⟨h2,h3,h4,h5,DE⟩:=hM.bk id _ hb;have bF:0<(ρ.aW (.aA id)).cap:=om;obtain⟨cur,cC,h1,hd⟩:=DE bF;have hmul:(h+E.length)*esz<=(ρ.aW (.aA id)).cap*esz:=acr _ om;rw[ade]at hmul;obtain⟨w',iT,hr,tm,ht,eu,hk⟩:=o0 (P:=P) (ρ.aW (.aA id)).b ((ρ.aW (.aA id)).aB+h*esz) vs 0 cur w cC (by rw[wv];omega) aeM
 obtain⟨oq,hX⟩:=hM.Zj (Jm:= .row esz (dm rows h E)) hb ⟨_,hb,aG,λ_=>bF⟩ ht (λg=>⟨by rw[ym hle];exact h2,h3,h4,λcs fF=>by
   obtain⟨i,hi⟩:=aag fF;rw[sC hle]at hi;split at hi
   .exact hE cs (Wm hi)
   .exact h5 cs (Wm hi),λ_=>⟨iT,tm,by rw[eu];exact h1,λi cs j c hi hj=>by
  rw[hk];rw[sC hle]at hi;have gH:j<esz:=by
   have ia:cs.length=esz:=by
    split at hi
    .exact hE cs (Wm hi)
    .exact h5 cs (Wm hi)
   rw[<-ia];exact(Mp.1 hj).1
  split at hi
  .rename_i iF;obtain⟨u,hu,cP⟩:=cL _ cs j c hi hj;have e1:i*esz=h*esz+(i-h)*esz:=by rw[<-ade];congr 1;omega
   have ay:=(Mp.1 hu).1;rw[if_pos om];refine⟨u,?_,(cP.dg g aG).x9 _⟩;rw[<-hu];congr 1;omega
  .rename_i iF;obtain⟨u,hu,cP⟩:=hd i cs j c hi hj;have gj:¬((ρ.aW (.aA id)).aB+h*esz+0<=(ρ.aW (.aA id)).aB+i*esz+j/\(ρ.aW (.aA id)).aB+i*esz+j<(ρ.aW (.aA id)).aB+h*esz+0+vs.length):=by
    rw[wv];rcases aaD i h with q|q
    .have:(i+1)*esz<=h*esz:=acr _ q;rw[ade,adG]at this;omega
    .have:(h+E.length)*esz<=i*esz:=acr _ om;rw[ade]at this;omega
   rw[if_neg gj];exact⟨u,hu,cP.dg g (by rintro _ _ _ e;cases e;rw[hM.n];exact hid)⟩⟩⟩) (by
  rintro i' j' Aj e ⟨es,Vx,R3,lY,fh,mg⟩;rw[aal hid]at lY;cases lY;rw[sC hle]at fh;split at fh
  .obtain⟨u,hu,cP⟩:=cL _ _ _ _ fh mg;exact absurd rfl (cP.Cc _ _)
  .exact⟨esz,rows,R3,hb,fh,mg⟩)
 exact⟨w',hr,oq,hX⟩
theorem yn:∀{cs:List CC},si cs=true->∀c,c∈cs->c.kj=true
 | [],_,c,h=>by simp at h
 |x::r,h,c,hc=>by
  simp only[si,aaJ]at h;rcases abH.1 hc with rfl|hc
  .exact h.1
  .exact yn h.2 c hc
theorem rT:∀{E:List (List CC)},gu E=true->∀cs,cs∈E->si cs=true
 | [],_,c,h=>by simp at h
 |x::r,h,c,hc=>by
  simp only[gu,aaJ]at h;rcases abH.1 hc with rfl|hc
  .exact h.1
  .exact rT h.2 c hc
theorem rU{E:List (List CC)}(h:gu E=true){i j:Nat}{cs:List CC}{c:CC}(hi:E[i]? =some cs)(hj:cs[j]? =some c):c.kj=true:=
 yn (rT h cs (Wm hi)) c (Wm hj)
theorem D9(hM:aN ρ m w){t t2 ty e e2:TypeId}{i:TypeInfo}{z:List CC}{v v2:Value}{c2:CV}{id h:Nat}{rows E2:List (List CC)}(ht:P.underlying t=some (.slice e))(yd:P.underlying t2=some (.slice e2))(hi:P.info? e=some i)(hz:eV P e=some z)(eu:i.size=z.length)(hb:0<i.bytes)(hd:cG ρ w (.rv (.one (.row id i.size 0 (some h)))) v)(rR:cG ρ w c2 v2)(gV:m[id]? =some (.row i.size rows))(Gd:gm m i.size c2=some E2)(dQ:0<rows.length)(hle:h+E2.length<=rows.length)(k6:gu E2=true)(lX:rows.length*i.bytes<=140737488355328)(hK:K (.rv (.one (.row id i.size 0 (some (h+E2.length))))) (m.set id (.row i.size (dm rows h E2)))):
  eM P (do pure (Next.value (<-Builtin.append_ #[t,t2] ty #[v,v2]))) ρ m w K:=by
 have hid:id<m.length:=(Mp.1 gV).1;have Cj:gm m i.size (.rv (.one (.row id i.size 0 (some h))))=some (bt rows 0 (some h)):=by simp[gm,aX,gV]
 obtain⟨SI,l4,Zm,D4,Z8,SJ,F1⟩:=o4 hM Cj hd;obtain⟨ad2,Oz,OA,Al,Z9,aaa,F2⟩:=o4 hM Gd rR;have DF:=hz;simp only[eV,XX,V3]at DF;obtain⟨i',fm,zv,SK,SH⟩:=DF;rw[hi]at fm;cases fm;have aaj:(bt rows 0 (some h)).length=h:=by rw[np];simp;omega
 rw[aaj]at D4 Z8;have aak:(h+E2.length)*i.bytes<=140737488355328:=abK (acr _ hle) lX;have fv:=qA (P:=P) (w:=w) (ty:=ty) ht yd hi SK (a0:=SI) (n1:=h) (c1:=l4) (n2:=E2.length) (src:=v2) (olds:=Zm) (news:=OA)
  (by rw[Al];rfl) (λk=>by rw[Al];exact F2.firstCells Oz k) (λk=>by have:=F1.firstCells (P:=P) l4 k;rwa [aaj]at this) hb aak
 obtain⟨r2,r3,r4,r5,Lq⟩:=hM.bk id _ gV;obtain⟨ay,d1,d2,d3,d4,ad,SL,w8⟩:=hd;rw[SL]at D4;injection D4 with q1 q2 q3
 simp only[adW]at q3;have GA:h+E2.length<=l4:=by rw[<-q3];clear Lq;omega
 have u0:=w8 (by clear Lq;omega)
 rw[if_pos GA]at fv;obtain⟨w',wZ,oq,hX⟩:=u3 (P:=P) hM (h:=h) (E:=E2) (vs:=OA) gV hle dQ F2.m6 F2.len F2.one (λk cs j c hk hj=>by obtain⟨u,hu,cP⟩:=F2.mB k cs j c hk hj;exact⟨u,hu,cP.OG (rU k6 hk hj)⟩)
 refine⟨.value (.slice SI (h+E2.length) l4),_,w',.rv (.one (.row id i.size 0 (some (h+E2.length)))),_,ρ,?_,.inl rfl,hK,oq,?_,hX⟩
 .rw[SL,q1,q2,show(ρ.aW (.aA id)).cap-0=l4 by simpa using q3,Sem.run_bind,fv]
  rw[<-q1,u0];simp only[A0,nS,Nat.zero_mul,aeo];rw[wZ];rfl
 .refine⟨ay,aad _,?_,d3,d4,SI,?_,λh0=>by rw[<-q1];exact w8 h0⟩
  .show h+E2.length<=_;clear Lq;omega
  .simp only[adl,adW];rw[q3]
theorem Ea(hM:aN ρ m w){t ty e:TypeId}{i:TypeInfo}{z:List CC}{v:Value}{id lo hi:Nat}{rows:List (List CC)}(ht:P.underlying t=some (.slice e))(fm:P.info? e=some i)(hz:eV P e=some z)(eu:i.size=z.length)(hd:cG ρ w (.rv (.one (.row id i.size lo (some hi)))) v)(gV:m[id]? =some (.row i.size rows))(iY:lo<hi)(hle:hi<=rows.length)(hK:K (.bI []) (m.set id (.row i.size (dm rows lo (iu (hi-lo) z))))):
  eM P (do pure (Next.value (<-Builtin.clear_ #[t] ty #[v]))) ρ m w K:=by
 have hid:id<m.length:=(Mp.1 gV).1;have DF:=hz;simp only[eV,XX,V3]at DF;obtain⟨i',fh,zv,SK,SH⟩:=DF;rw[fm]at fh;cases fh;obtain⟨OE,WT⟩:=fQ (ρ:=ρ) (w:=w) SH;have Sa:zv.cells.size=z.length:=by simpa using OE
 obtain⟨r2,r3,r4,r5,Lq⟩:=hM.bk id _ gV;obtain⟨ay,d1,d2,d3,d4,ad,SL,w8⟩:=hd;have u0:=w8 (by clear Lq;omega)
 have hrl:(iu (hi-lo) z).length=hi-lo:=by rw[gn];simp
 obtain⟨w',wZ,oq,hX⟩:=u3 (P:=P) hM (h:=lo) (E:=iu (hi-lo) z) (vs:=(Builtin.zeroCells zv.cells (hi-lo)).toList) gV (by rw[hrl];omega) om
  (λcs fF=>by rw[gn]at fF;rw[adX fF,eu]) (by rw[hrl,adP,size_zeroCells,Sa,eu])
  (λu hu=>by
   rw[aeQ]at hu;simp only[Builtin.zeroCells,Array.mem_map]at hu;obtain⟨k,hk,rfl⟩:=hu;have hk:k<(hi-lo)*zv.cells.size:=by simpa using hk
   have hzp:0<zv.cells.size:=by
    rcases acO zv.cells.size with h0|h0
    .rw[h0]at hk;simp at hk
    .exact h0
   have hm:k%zv.cells.size<zv.cells.size:=Nat.mod_lt _ hzp;rw[Sa]at hm;obtain⟨u,hu,cP⟩:=WT _ _ (xm hm);have xb:zv.cells[k%zv.cells.size]? =some u:=by rw[Sa];simpa using hu
   rw[getElem!_def,xb];exact cP.one)
  (λk cs j c hk hj=>by
   rw[gn]at hk;have lP:=(Mp.1 hk).1;simp at lP;have fF:cs=z:=adX (Wm hk);subst fF;have DG:=(Mp.1 hj).1;obtain⟨u,hu,cP⟩:=WT j c hj;refine⟨u,?_,cP⟩;have ay:k*i.size+j<(hi-lo)*zv.cells.size:=by have:(k+1)*i.size<=(hi-lo)*i.size:=acr _ lP;rw[ade,adG]at this;rw[Sa,<-eu];omega
   simp only[Builtin.zeroCells,aeb,afi,Array.getElem?_range];rw[if_pos ay];simp only[aaS,abi];have hm:(k*i.size+j)%zv.cells.size=j:=by rw[Sa,eu,aep,afN,afG DG]
   rw[hm];have xb:zv.cells[j]? =some u:=by simpa using hu
   rw[getElem!_def,xb])
 refine⟨.value (.tuple #[]),_,w',.bI [],_,ρ,?_,.inl rfl,hK,oq,⟨[],rfl,rfl,λi r h=>by simp at h⟩,hX⟩
 have hn:hi-lo≠0:=om;simp only[adl]at SL;rw[SL,u0];obtain⟨n,R7⟩:∃n,hi-lo=n+1:=⟨hi-lo-1,om⟩;rw[R7]at wZ|-;simp[Builtin.clear_,run_underlying ht,zeroValue,typeInfo,fm,SK,wZ]
theorem Lx(hM:aN ρ m w)(hE:bu ρ w ba a.tmps){t t2 ty e e2:TypeId}{i:TypeInfo}{z:List CC}{x y:Operand}{x' y':X}(ht:P.underlying t=some (.slice e))(yd:P.underlying t2=some (.slice e2))(hi:P.info? e=some i)(hz:eV P e=some z)(eu:i.size=z.length)(dQ:0<z.length)(hb:0<i.bytes)(hx:bG x=some x')(hy:bG y=some y')(h:step P (.WD i.size i.bytes x' y') ba m K):
  eM P (do pure (Next.value (<-Builtin.append_ #[t,t2] ty #[a.eval x,a.eval y]))) ρ m w K:=by
 simp only[step]at h;rcases cU.1 h with⟨A4,g1⟩|⟨_,g1⟩
 .exact GP hM hE ht yd hi hz eu dQ hb hx hy A4 g1
 .have hd:=aU hE hx;have rR:=aU hE hy;split at g1
  .rename_i id e1 lo hh Vt;rw[Vt]at hd;obtain⟨bk,gV,g2⟩:=be.1 g1;rw[aX]at gV;split at g2
   .rename_i e2' rows;obtain⟨E2,Gd,g3⟩:=be.1 g2;rcases cU.1 g3 with⟨hc,lX,hK⟩|⟨_,g4⟩
    case inr=>exact g4.elim
    simp only[aaJ,ack]at hc;obtain⟨q1,q2,q3,c1,c2,c3⟩:=hc;have q1:=aaX q1;have q2:=aaX q2;have q3:=aaX q3;subst q1 q2 q3;rw[br]at hK;exact D9 hM ht yd hi hz eu hb hd rR gV Gd c1 c2 c3 lX hK
   .exact g2.elim
  .exact g1.elim
theorem Ly(hM:aN ρ m w)(hE:bu ρ w ba a.tmps){t ty e:TypeId}{i:TypeInfo}{z:List CC}{x:Operand}{x':X}(ht:P.underlying t=some (.slice e))(hi:P.info? e=some i)(hz:eV P e=some z)(eu:i.size=z.length)(hx:bG x=some x')(h:step P (.clr i.size z x') ba m K):
  eM P (do pure (Next.value (<-Builtin.clear_ #[t] ty #[a.eval x]))) ρ m w K:=by
 have hd:=aU hE hx;simp only[step]at h;generalize a.eval x=v at hd|-;generalize x'.ev ba=c at hd h;have nothing:∀ad cap,v= .slice ad 0 cap->K (.bI []) m->eM P (do pure (Next.value (<-Builtin.clear_ #[t] ty #[v]))) ρ m w K:=by
  intro ad cap hv hK;refine⟨.value (.tuple #[]),_,w,.bI [],m,ρ,?_,.inl rfl,hK,hM,⟨[],rfl,rfl,λi r h=>by simp at h⟩,Ext.refl _ _ _⟩
  subst hv;cases ad<;>simp[Builtin.clear_,run_underlying ht]
 split at h
 .rename_i id e1 lo fm;obtain⟨bk,gV,h⟩:=be.1 h;rw[aX]at gV;split at h
  .rename_i e2 rows;rcases cU.1 h with⟨hc,iF⟩|⟨_,iF⟩
   case inr=>exact iF.elim
   clear h;simp only[aaJ,ack]at hc;obtain⟨q1,q2,hle⟩:=hc;have q1:=aaX q1;have q2:=aaX q2;subst q1 q2;obtain⟨r2,_⟩:=hM.bk id _ gV;have Gb:cG ρ w (.rv (.one (.row id i.size lo (some (sj fm rows.length))))) v:=by
    obtain⟨d0,d1,d2,d3,d4,ad,hv,w8⟩:=hd;cases fm with
    |none=>
     simp only[aed]at d1 d2 hv;refine⟨d0,?_,?_,d3,d4,ad,?_,w8⟩<;>simp only[sj,adl,r2]
     .exact d1
     .exact aah _
     .exact hv
    |some hh=>exact⟨d0,d1,d2,d3,d4,ad,hv,w8⟩
   rcases cU.1 iF with⟨ay,hK⟩|⟨eO,hK⟩
   .rw[br]at hK;exact Ea hM ht hi hz eu Gb gV (by simpa[adw]using ay) hle hK
   .have eO:¬lo<sj fm rows.length:=λhh=>by rw[<-adw,eO]at hh;cases hh
    obtain⟨d0,d1,d2,d3,d4,ad,hv,w8⟩:=Gb;simp only[adl]at hv;rw[show sj fm rows.length-lo=0 by omega]at hv
    exact nothing _ _ hv hK
  .exact h.elim
 .obtain⟨ad,hv⟩:=hd;exact nothing _ _ hv h
 .exact h.elim
theorem OH{c:CV}{v:Value}(hc:Oa c=true)(hd:cG ρ w c v):∃ad n cap,v= .slice ad n cap:=by
 unfold Oa at hc;split at hc;all_goals first
  |(cases hc;done)
  |(have hd:dG _ _ _ _:=hd;cases hd<;>exact⟨_,_,_,rfl⟩)
  |(obtain⟨a,hv⟩:=hd;exact⟨_,_,_,hv⟩)
  |(obtain⟨_,_,_,_,_,a,hv,_⟩:=hd;exact⟨_,_,_,hv⟩)
theorem GV(hM:aN ρ m w)(hE:bu ρ w ba a.tmps){t t2 ty e:TypeId}{i:TypeInfo}{z:List CC}{x y:Operand}{x' y':X}(ht:P.underlying t=some (.slice e))(hi:P.info? e=some i)(hz:eV P e=some z)(eu:i.size=z.length)(hx:bG x=some x')(hy:bG y=some y')(h:step P (.copy i.size x' y') ba m K):
  eM P (do pure (Next.value (<-Builtin.copy_ #[t,t2] ty #[a.eval x,a.eval y]))) ρ m w K:=by
 have hd:=aU hE hx;have rR:=aU hE hy;simp only[step]at h;generalize a.eval x=v at hd|-;generalize a.eval y=v2 at rR|-;generalize x'.ev ba=c at hd h;generalize y'.ev ba=c2 at rR h;obtain⟨E,Gd,h⟩:=be.1 h;obtain⟨ad2,Oz,OA,Al,Z9,aaa,F2⟩:=o4 hM Gd rR;have hn:=F2.firstCells (P:=P) Oz 0;rw[show w.drewN 0=w from rfl]at hn;have h':=h;clear h;rcases cU.1 h' with⟨h0,g⟩|⟨h0,g⟩
 .have h0:E.length=0:=aaX h0;rcases cU.1 g with⟨hs,hK⟩|⟨_,g⟩
  case inr=>exact g.elim
  obtain⟨ad,n,cap,hv⟩:=OH hs hd;have wv:OA=[]:=aaW (by rw[F2.len,h0,Nat.zero_mul])
  rw[h0]at hn Al;rw[wv]at hn;refine⟨.value (goInt 0),_,w,am .i64 0,m,ρ,?_,.inl rfl,hK,hM,dG.val (.int .i64 0) rfl,Ext.refl _ _ _⟩;subst hv Al;cases ad<;>simp[Builtin.copy_,run_underlying ht,Builtin.lenOf,sizeOf,typeInfo,hi,hn,storeCells]
 .split at g
  .clear h';rename_i rid e1 lo fm;obtain⟨bk,gV,g⟩:=be.1 g;rw[aX]at gV;split at g
   .rename_i e2 rows;rcases cU.1 g with⟨hc,hK⟩|⟨_,g⟩
    case inr=>exact g.elim
    clear g;simp only[aaJ,ack]at hc;obtain⟨q1,q2,hle,lX,k6⟩:=hc;have q1:=aaX q1;have q2:=aaX q2;subst q1 q2;have dQ:0<E.length:=by
     rcases acO E.length with e0|e0
     .rw[e0]at h0;cases h0
     .exact e0
    obtain⟨r2,r3,_⟩:=hM.bk rid _ gV;have Gb:cG ρ w (.rv (.one (.row rid i.size lo (some (sj fm rows.length))))) v:=by
     obtain⟨d0,d1,d2,d3,d4,ad,hv,w8⟩:=hd;cases fm with
     |none=>
      simp only[aed]at d1 d2 hv;refine⟨d0,?_,?_,d3,d4,ad,?_,w8⟩<;>simp only[sj,adl,r2]
      .exact d1
      .exact aah _
      .exact hv
     |some hh=>exact⟨d0,d1,d2,d3,d4,ad,hv,w8⟩
    obtain⟨w',wZ,oq,hX⟩:=u3 (P:=P) hM (h:=lo) (E:=E) (vs:=OA) gV om om F2.m6 F2.len F2.one (λk cs j c hk hj=>by obtain⟨u,hu,cP⟩:=F2.mB k cs j c hk hj;exact⟨u,hu,cP.OG (rU k6 hk hj)⟩)
    rw[br]at hK;obtain⟨d0,d1,d2,d3,d4,ad,hv,w8⟩:=Gb;simp only[adl]at hv d2;have u0:=w8 om;have Lz:Nat.min E.length (sj fm rows.length-lo)=E.length:=ael om;refine⟨.value (goInt E.length),_,w',am .i64 (E.length:Int),_,ρ,?_,.inl rfl,hK,oq,dG.val (.int .i64 (E.length:Int)) rfl,hX⟩;subst hv Al u0;simp[Builtin.copy_,run_underlying ht,Builtin.lenOf,sizeOf,typeInfo,hi,hn,Lz,wZ]
   .exact g.elim
  .exact g.elim
theorem GW(hM:aN ρ m w)(hE:bu ρ w ba a.tmps){t e:TypeId}{n sz:Nat}{agg:Bool}{x k:Operand}{x' k':X}(hu:P.underlying t=some (.array n e))(ha:fl P e=some agg)(hs:fE P e=some sz)(hx:bG x=some x')(hk:bG k=some k')(h:step P (.N7 agg n sz x' k') ba m K):eM P (do pure (Next.value (<-Instr.index t (a.eval x) (a.eval k)))) ρ m w K:=by
 have hd:=aU hE hx;have GU:=aU hE hk;simp only[step]at h;generalize a.eval x=v at hd|-;generalize a.eval k=vk at GU|-;generalize x'.ev ba=c at hd h;generalize k'.ev ba=ck at GU h;split at h
 .rename_i kd j;obtain⟨rfl,_⟩:=cf GU;split at h
  .rename_i cs;obtain⟨vs,rfl,hl,hc⟩:=hd;obtain⟨kk,Ge,g1⟩:=be.1 h;obtain⟨hj,ay⟩:=ot Ge;obtain⟨l,hr,g2⟩:=be.1 g1;obtain⟨cv,hm,hK⟩:=be.1 g2;clear h g1 g2;subst hj;obtain⟨u,fv,cP⟩:=D2 (w:=w) ha hs (cells:=vs.toArray) ⟨by simpa using hl,λi c hi=>by simpa using hc i c hi⟩ hr hm
   refine eM.pure hM (v:=u) ?_ hK cP;have h1:(0:Int)<=(kk:Int)/\(kk:Int)<(n:Int):=om;simp[Instr.index,asIntOf,run_underlying hu,h1,gv hs,ay,fv]
  .exact h.elim
 .exact h.elim
theorem tx(hM:aN ρ m w)(hE:bu ρ w ba a.tmps){mx:Bool}{ts:Array TypeId}{ty:TypeId}{x y:Operand}{x' y':X}(hx:bG x=some x')(hy:bG y=some y')(h:step P (.sf mx [x',y']) ba m K):eM P (do pure (Next.value (<-(if mx then Builtin.max_ ts ty #[a.eval x,a.eval y]else Builtin.min_ ts ty #[a.eval x,a.eval y])))) ρ m w K:=by
 have hd:=aU hE hx;have rR:=aU hE hy;simp only[step]at h;generalize a.eval x=v at hd|-;generalize a.eval y=u at rR|-;generalize x'.ev ba=c at hd h;generalize y'.ev ba=d at rR h;split at h
 .rename_i k p;obtain⟨rfl,_⟩:=cf hd;split at h
  .rename_i k2 q;obtain⟨rfl,_⟩:=cf rR;cases mx
   .refine eM.pure hM (v:= .int k (if q<p then q else p)) ?_ h (cS rfl)
    simp[Builtin.min_,Builtin.min2]
   .refine eM.pure hM (v:= .int k (if q>p then q else p)) ?_ h (cS rfl)
    simp[Builtin.max_,Builtin.max2]
  .exact h.elim
 .exact h.elim
theorem LB(hM:aN ρ m w)(hE:bu ρ w ba a.tmps){s e e2:TypeId}{x:Operand}{x':X}(hs:P.underlying s=some (.slice e))(he:P.underlying e=some (.int .u8))(hx:bG x=some x')(h:step P (.idb x') ba m K):eM P (do pure (Next.value (<-convert s s (a.eval x)))) ρ m w K:=by
 have hd:=aU hE hx;simp only[step]at h;generalize a.eval x=v at hd|-;generalize x'.ev ba=c at hd h;split at h
 .rename_i id e1 lo hi;obtain⟨bk,gV,g1⟩:=be.1 h;rw[aX]at gV;split at g1
  .rename_i esz rows;rcases cU.1 g1 with⟨ay,hK⟩|⟨_,g2⟩
   case inr=>exact g2.elim
   rw[aaJ,adw]at ay;obtain⟨oR,ay⟩:=ay;have oR:=aaX oR;have hid:id<m.length:=(Mp.1 gV).1;have Vs:=hd;obtain⟨d0,d1,d2,d3,d4,ad,hv,w8⟩:=hd;obtain⟨r2,r3,r4,r5,Lq⟩:=hM.bk id _ gV;have bF:0<(ρ.aW (.aA id)).cap:=by clear Lq;omega
   obtain⟨cur,cC,h1,cL⟩:=Lq bF;have u0:=w8 (by clear Lq;omega)
   obtain⟨ty,fr,nl,uM,k6,_⟩:=cC;have ajL:=(abG.1 nl).1;let fr':Nat×Nat:=if fr.1==fr.2 then(cur.size,cur.size+1)else(min fr.1 cur.size,max fr.2 (cur.size+1))
   let w':World:=w.freeze ⟨(ρ.aW (.aA id)).b,cur.size,none⟩ 1;have WV:w'.heap[(ρ.aW (.aA id)).b]? =some (.cells cur ty fr'):=by simp[w',World.freeze,ads,nl,fr']
   have Eb:nN (esz=1) w' (ρ.aW (.aA id)).b cur:=by
    refine⟨ty,fr',WV,?_,λi hi=>?_,.inl oR⟩
    .simp only[fr'];split
     .simp
     .simp only;omega
    .simp only[fr'];split
     .simp;omega
     .rename_i gj;have gj:fr.1≠fr.2:=by simpa using gj
      have h0:cur.size<=fr.1:=by
       rcases aaD fr.1 cur.size with q|q
       .have:=k6 fr.1 q;simp at this;omega
       .exact q
      simp;omega
   have ht:nR w w' (ρ.aW (.aA id)).b:=⟨λb hb=>by simp[w',World.freeze,ads,Ne.symm hb],by simp[w',World.freeze],by simp[w',World.freeze],by simp[w',World.freeze],by simp[w',World.freeze]⟩
   obtain⟨oq,hX⟩:=hM.Zj (Jm:= .row esz rows) gV ⟨_,gV,aG,λ_=>bF⟩ ht (λg=>⟨r2,r3,r4,r5,λ_=>⟨cur,Eb,h1,λi cs j c hi hj=>by
    obtain⟨u,hu,cP⟩:=cL i cs j c hi hj;exact⟨u,hu,cP.dg g (by rintro _ _ _ e;cases e;exact d0)⟩⟩⟩) (by
    rintro i' j' Aj e ⟨es,Vx,R3,lY,fh,mg⟩;rw[aal hid]at lY;cases lY;exact⟨esz,rows,R3,gV,fh,mg⟩)
   have j9:m.set id (.row esz rows)=m:=by
    apply acq;intro i;rw[acy];split
    .rename_i hi;subst hi
     first|rw[gV]|rw[if_pos hid,gV]
    .rfl
   rw[j9]at oq hX;refine⟨.value v,v,w',_,m,ρ,?_,.inl rfl,hK,oq,Vs,hX⟩;have hsh:w.shape? (ρ.aW (.aA id)).b=some (ty,cur.size):=by unfold World.shape?;rw[nl]
   rw[hv,u0];simp[convert,run_underlying hs,run_underlying he,markStringish,hsh];rfl
  .exact g1.elim
 .exact h.elim
end
section
variable {P:Program} {ρ:b9} {m:Mem} {w:World} {ba:List CV} {a:Act} {K:CV->Mem->Prop}
theorem bu.ext{U':b9}{m':Mem}{w':World}{tmps:Array Value}(hM:aN ρ m w)(x:Ext ρ m w U' m' w')(hE:bu ρ w ba tmps):bu U' w' ba tmps:=
 ⟨hE.size,λi c hi=>let⟨v,hv,hd⟩:=hE.mB i c hi;⟨v,hv,cG.ext hM x hd⟩⟩
theorem bu.set{tmps:Array Value}{d:Nat}{c:CV}{v:Value}(hE:bu ρ w ba tmps)(hd:cG ρ w c v):bu ρ w (ba.set d c) (tmps.setIfInBounds d v):=by
 refine⟨by simp[hE.size],λi c' hi=>?_⟩
 by_cases h:d=i
 .subst h;have ay:d<ba.length:=by
   rcases aaD d ba.length with h|h
   .exact h
   .rw[abk (by simpa using h)]at hi;cases hi
  rw[aal ay]at hi;cases hi;exact⟨v,by rw[adL];simp[hE.size,ay],hd⟩
 .rw[aap h]at hi;obtain⟨u,hu,cP⟩:=hE.mB i c' hi;exact⟨u,by rw[adL,if_neg h];exact hu,cP⟩
theorem OI{d:Option Nat}{v:CV}{e:List CV}{K:List CV->Prop}:put d v e K=match d with|none=>K e|some d=>K (e.set d v):=by
 cases d with
 |none=>rfl
 |some d=>simp only[put,ZX,fO,br]
theorem bu.put{d:Option Nat}{c:CV}{v:Value}(hE:bu ρ w ba a.tmps)(hd:cG ρ w c v){K:List CV->Prop}(h:put d c ba K):
  ∃gD,K gD/\bu ρ w gD (a.put d v).tmps/\(a.put d v).defers=a.defers:=by
 rw[OI]at h;cases d with
 |none=>exact⟨ba,h,hE,rfl⟩
 |some d=>exact⟨_,h,hE.set hd,rfl⟩
theorem GX{o:Oper}{i:I}(hl:xZ P o=some i)(wy:∀f xs ts,o.op≠.call {callee:= .value f,args:=xs,argTypes:=ts})(hM:aN ρ m w)(hE:bu ρ w ba a.tmps)(h:step P i ba m K):eM P (execOp a.eval o) ρ m w K:=by
 unfold xZ at hl;cases e8:o.op;all_goals rw[e8]at hl
 all_goals try(simp only at hl;cases hl;done)
 case move x=>
  simp only[XX,V3]at hl;obtain⟨x',hx,hl⟩:=hl;cases hl;unfold execOp;rw[e8];exact eM.pure hM rfl h (aU hE hx)
 case assign x=>
  simp only[XX,V3]at hl;obtain⟨x',hx,hl⟩:=hl;cases hl;unfold execOp;rw[e8];exact eM.pure hM rfl h (aU hE hx)
 case pick c x y=>
  simp only[XX,V3]at hl;obtain⟨c',hc,x',hx,y',hy,hl⟩:=hl;cases hl;unfold execOp;rw[e8];exact GK hM hE hc hx hy h
 case alloc t=>
  simp only[XX,V3]at hl;obtain⟨z,hz,hl⟩:=hl;cases hl;unfold execOp;rw[e8];exact DY hM hz h
 case box t x=>
  simp only[XX,V3]at hl;obtain⟨x',hx,hl⟩:=hl;cases hl;unfold execOp;rw[e8];exact Lh hM hE hx h
 case build t ps=>
  simp only[XX,V3]at hl;obtain⟨z,hz,hl⟩:=hl;unfold execOp;rw[e8];split at hl
  .rename_i fs hu;split at hl
   .rename_i gM;simp only[V3]at hl;obtain⟨oZ,hp,hl⟩:=hl;cases hl;exact wj hM hE hz (.inl ⟨fs,hu,gM,hp⟩) h
   .cases hl
  .rename_i n e hu;simp only[V3]at hl;obtain⟨sz,hs,oZ,hp,hl⟩:=hl;cases hl;exact wj hM hE hz (.inr ⟨n,e,sz,hu,hs,hp⟩) h
  .cases hl
 case buildSlice t n ps=>
  simp only[XX]at hl;unfold execOp;rw[e8];split at hl
  .rename_i e hu;simp only[V3]at hl;obtain⟨z,hz,sz,hs,hl⟩:=hl;split at hl
   .rename_i hc;obtain⟨rfl,h2,h3⟩:=hc;simp only[V3]at hl;obtain⟨oZ,hp,hl⟩:=hl;cases hl;exact Lo hM hE hu hz hs h2 h3 hp h
   .cases hl
  .cases hl
 case load t x=>
  simp only[XX,V3]at hl;obtain⟨agg,ha,n,hs,x',hx,hl⟩:=hl;cases hl;unfold execOp;rw[e8];exact GD hM hE ha hs hx h
 case store t p x=>
  simp only[XX,V3]at hl;obtain⟨n,hs,hl⟩:=hl;split at hl
  .cases hl
  .rename_i hn;simp only[V3]at hl;obtain⟨p',hp,x',hx,hl⟩:=hl;cases hl;unfold execOp;rw[e8];exact D1 hM hE hs hn hp hx h
 case fieldAddr t x k=>
  simp only[XX]at hl;unfold execOp;rw[e8];split at hl
  .rename_i fs hu;simp only[V3]at hl;obtain⟨f,hf,n,hs,hl⟩:=hl;split at hl
   .cases hl
   .rename_i hn;simp only[V3]at hl;obtain⟨x',hx,hl⟩:=hl;cases hl;exact GF hM hE hu hf hs hn hx h
  .cases hl
 case field t x k=>
  simp only[XX]at hl;unfold execOp;rw[e8];split at hl
  .rename_i fs hu;simp only[V3]at hl;obtain⟨f,hf,agg,ha,n,hs,x',hx,hl⟩:=hl;cases hl;exact Lj hM hE hu hf ha hs hx h
  .cases hl
 case indexAddr t x k=>
  simp only[XX]at hl;unfold execOp;rw[e8];split at hl
  .rename_i e hu;simp only[V3]at hl;obtain⟨n,hs,x',hx,k',hk,hl⟩:=hl;cases hl;exact Ll hM hE hu hs hx hk h
  .rename_i len e hu;simp only[V3]at hl;obtain⟨n,hs,x',hx,k',hk,hl⟩:=hl;cases hl;exact GG hM hE hu hs hx hk h
  .cases hl
 case index t x k=>
  simp only[XX]at hl;unfold execOp;rw[e8];split at hl
  .rename_i hu;simp only[V3]at hl;obtain⟨x',hx,k',hk,hl⟩:=hl;cases hl;exact GH hM hE hu hx hk h
  .rename_i n e hu;simp only[V3]at hl;obtain⟨agg,ha,sz,hs,x',hx,k',hk,hl⟩:=hl;cases hl;exact GW hM hE hu ha hs hx hk h
  .cases hl
 case binOp op t x y yt=>
  simp only[XX]at hl;unfold execOp;rw[e8];split at hl
  .simp only[V3]at hl;obtain⟨x',hx,y',hy,hl⟩:=hl;cases hl;exact AW hM hE hx hy h
  .simp only[V3]at hl;obtain⟨x',hx,y',hy,hl⟩:=hl;cases hl;exact AW hM hE hx hy h
  .rename_i e hu;split at hl
   .simp only[V3]at hl;obtain⟨x',hx,hl⟩:=hl;cases hl;exact yg (neg:=false) hM hE hu hx h
   .simp only[V3]at hl;obtain⟨x',hx,hl⟩:=hl;cases hl;exact yg (neg:=true) hM hE hu hx h
   .cases hl
  .rename_i hu;split at hl
   .simp only[V3]at hl;obtain⟨x',hx,y',hy,hl⟩:=hl;cases hl;exact AX (neg:=false) hM hE hu hx hy h
   .simp only[V3]at hl;obtain⟨x',hx,y',hy,hl⟩:=hl;cases hl;exact AX (neg:=true) hM hE hu hx hy h
   .cases hl
  .rename_i n e hu;split at hl
   .rename_i kk hg hue hs;simp only[V3]at hl;obtain⟨x',hx,y',hy,hl⟩:=hl;cases hl;exact yb (neg:=false) hM hE hu hg hue hs hx hy h
   .rename_i kk hg hue hs;simp only[V3]at hl;obtain⟨x',hx,y',hy,hl⟩:=hl;cases hl;exact yb (neg:=true) hM hE hu hg hue hs hx hy h
   .cases hl
  .rename_i fs hu;split at hl
   .rename_i ks hg hk;simp only[V3]at hl;obtain⟨x',hx,y',hy,hl⟩:=hl;cases hl;exact AY (neg:=false) hM hE hu hg hk hx hy h
   .rename_i ks hg hk;simp only[V3]at hl;obtain⟨x',hx,y',hy,hl⟩:=hl;cases hl;exact AY (neg:=true) hM hE hu hg hk hx hy h
   .cases hl
  .cases hl
 case unOp op t x=>
  simp only[XX,V3]at hl;obtain⟨x',hx,hl⟩:=hl;cases hl;unfold execOp;rw[e8];exact Oq hM hE hx h
 case convert s d x=>
  simp only[XX]at hl;unfold execOp;rw[e8];split at hl
  .rename_i hs hd;simp only[V3]at hl;obtain⟨x',hx,hl⟩:=hl;cases hl;exact GI hM hE hs hd hx h
  .rename_i hs hd;simp only[V3]at hl;obtain⟨x',hx,hl⟩:=hl;cases hl;exact Lm hM hE hs hd hx h
  .rename_i e hs hd;split at hl
   .rename_i he;simp only[V3]at hl;obtain⟨x',hx,hl⟩:=hl;cases hl;exact Ls hM hE hs he hd hx h
   .cases hl
  .rename_i e hs hd;split at hl
   .rename_i he;simp only[V3]at hl;obtain⟨x',hx,hl⟩:=hl;cases hl;exact Lt hM hE hs hd he hx h
   .cases hl
  .rename_i e0 e hs hd;split at hl
   .rename_i hsd he;simp only[V3]at hl;obtain⟨x',hx,hl⟩:=hl;cases hl;have hsd:s=d:=by simpa using hsd
    subst hsd;rw[hs]at hd;cases hd;exact LB (e2:=e0) hM hE hs he hx h
   .cases hl
  .cases hl
 case makeMap t r=>
  dsimp only at hl;unfold execOp;rw[e8];split at hl
  .cases hl;exact wx hM (.inl rfl) h
  .rename_i k n kt et hu;cases hl;exact wx hM (.inr ⟨k,n,kt,et,rfl,hu⟩) h
  .cases hl
 case makeSlice t l c=>
  simp only[XX]at hl;unfold execOp;rw[e8];split at hl
  .rename_i e hu;simp only[V3]at hl;obtain⟨i,hi,z,hz,hl⟩:=hl;split at hl
   .rename_i hc;obtain⟨h1,h2,h3⟩:=hc;simp only[V3]at hl;obtain⟨l',D7,c',tm,hl⟩:=hl;cases hl;exact Am hM hE hu hi hz h1 h2 h3 D7 tm h
   .cases hl
  .cases hl
 case lookup t x k b=>
  simp only[XX]at hl;unfold execOp;rw[e8];split at hl
  .rename_i kt vt hu;simp only[V3]at hl;obtain⟨z,hz,kk,hk,x',hx,k',Lv,hl⟩:=hl;cases hl;exact GS hM hE hu hz hk hx Lv h
  .cases hl
 case mapUpdate t x k v=>
  simp only[XX]at hl;unfold execOp;rw[e8];split at hl
  .rename_i kt vt hu;simp only[V3]at hl;obtain⟨kk,hk,x',hx,k',Lv,v',hv,hl⟩:=hl;cases hl;exact yj hM hE hu hk hx Lv hv h
  .cases hl
 case insert t x k v=>
  simp only[XX]at hl;unfold execOp;rw[e8];split at hl
  .rename_i kt vt hu;simp only[V3]at hl;obtain⟨kk,hk,x',hx,k',Lv,v',hv,hl⟩:=hl;cases hl;exact yj hM hE hu hk hx Lv hv h
  .cases hl
 case makeFunc fn fst fc=>
  unfold execOp;rw[e8];cases fn<;>simp only at hl<;>try(cases hl;done)
  rename_i f;split at hl
  .rename_i hz;simp only[XX,V3]at hl;obtain⟨x',hx,hl⟩:=hl;cases hl;have hf:fst= #[]:=Array.eq_empty_of_size_eq_zero hz;subst hf;exact Ot hM hE hx h
  .cases hl
 case extract x k=>
  simp only[XX,V3]at hl;obtain⟨x',hx,hl⟩:=hl;cases hl;unfold execOp;rw[e8];exact Ln hM hE hx h
 case slice t x lo hi mx=>
  simp only[XX]at hl;unfold execOp;rw[e8];split at hl
  .rename_i e hu;simp only[V3]at hl;obtain⟨n,hs,x',hx,GR,iY,fm,Cm,mx',R9,hl⟩:=hl;cases hl;exact Lr hM hE hu hs hx iY Cm R9 h
  .rename_i hu;cases mx<;>simp only at hl
   .simp only[V3]at hl;obtain⟨x',hx,GR,iY,fm,Cm,hl⟩:=hl;cases hl;exact GQ hM hE hu hx iY Cm h
   .cases hl
  .cases hl
 case nilCheck x=>
  simp only[XX,V3]at hl;obtain⟨x',hx,hl⟩:=hl;cases hl;exact GJ hM hE e8 hx h
 case call c=>
  obtain⟨callee,args,argTypes⟩:=c;cases callee with
  |value f=>
   exact absurd e8 (wy _ _ _)
  |invoke r n=>simp only at hl;cases hl
  |builtin b=>
   cases b<;>simp only at hl<;>try(cases hl;done)
   case len=>
    simp only[XX]at hl;split at hl
    .rename_i x t ez GY;have e1:args= #[x]:=adH (by simpa using ez)
     have e2:argTypes= #[t]:=adH (by simpa using GY)
     subst e1 e2;unfold execOp;rw[e8];split at hl
     .rename_i hu;simp only[V3]at hl;obtain⟨x',hx,hl⟩:=hl;cases hl;have:=uU (ty:=o.type) hM hE (.inl ⟨rfl,hu⟩) hx h;unfold eM at this|-;simpa[resolve,invoke,builtin]using this
     .rename_i e hu;simp only[V3]at hl;obtain⟨x',hx,hl⟩:=hl;cases hl;have:=uU (ty:=o.type) hM hE (.inr (.inl ⟨rfl,e,hu⟩)) hx h;unfold eM at this|-;simpa[resolve,invoke,builtin]using this
     .rename_i kt e hu;simp only[V3]at hl;obtain⟨x',hx,hl⟩:=hl;cases hl;have:=uU (ty:=o.type) hM hE (.inr (.inr ⟨rfl,kt,e,hu⟩)) hx h;unfold eM at this|-;simpa[resolve,invoke,builtin]using this
     .cases hl
    .cases hl
   case append=>
    simp only[XX]at hl;split at hl
    .rename_i x y t t2 ez GY;have e1:args= #[x,y]:=adH (by simpa using ez)
     have e2:argTypes= #[t,t2]:=adH (by simpa using GY)
     subst e1 e2;unfold execOp;rw[e8];split at hl
     .rename_i e e2 hu Gz;simp only[V3]at hl;obtain⟨i,hi,z,hz,hl⟩:=hl;split at hl
      .rename_i hc;obtain⟨h1,h2,h3⟩:=hc;simp only[V3]at hl;obtain⟨x',hx,y',hy,hl⟩:=hl;cases hl;have:=Lx (ty:=o.type) hM hE hu Gz hi hz h1 h2 h3 hx hy h;unfold eM at this|-;simpa[resolve,invoke,builtin]using this
      .cases hl
     .cases hl
    .cases hl
   case min=>
    simp only[XX]at hl;split at hl
    .rename_i x y ez;have e1:args= #[x,y]:=adH (by simpa using ez)
     subst e1;unfold execOp;rw[e8];simp only[V3]at hl;obtain⟨x',hx,y',hy,hl⟩:=hl;cases hl;have:=tx (mx:=false) (ts:=argTypes) (ty:=o.type) hM hE hx hy h;unfold eM at this|-;simpa[resolve,invoke,builtin]using this
    .cases hl
   case max=>
    simp only[XX]at hl;split at hl
    .rename_i x y ez;have e1:args= #[x,y]:=adH (by simpa using ez)
     subst e1;unfold execOp;rw[e8];simp only[V3]at hl;obtain⟨x',hx,y',hy,hl⟩:=hl;cases hl;have:=tx (mx:=true) (ts:=argTypes) (ty:=o.type) hM hE hx hy h;unfold eM at this|-;simpa[resolve,invoke,builtin]using this
    .cases hl
   case copy=>
    simp only[XX]at hl;split at hl
    .rename_i x y t t2 ez GY;have e1:args= #[x,y]:=adH (by simpa using ez)
     have e2:argTypes= #[t,t2]:=adH (by simpa using GY)
     subst e1 e2;unfold execOp;rw[e8];split at hl
     .rename_i e hu;simp only[V3]at hl;obtain⟨i,hi,z,hz,hl⟩:=hl;split at hl
      .rename_i hc;simp only[V3]at hl;obtain⟨x',hx,y',hy,hl⟩:=hl;cases hl;have:=GV (ty:=o.type) (t2:=t2) hM hE hu hi hz hc hx hy h;unfold eM at this|-;simpa[resolve,invoke,builtin]using this
      .cases hl
     .cases hl
    .cases hl
   case clear=>
    simp only[XX]at hl;split at hl
    .rename_i x t ez GY;have e1:args= #[x]:=adH (by simpa using ez)
     have e2:argTypes= #[t]:=adH (by simpa using GY)
     subst e1 e2;unfold execOp;rw[e8];split at hl
     .rename_i e hu;simp only[V3]at hl;obtain⟨i,hi,z,hz,hl⟩:=hl;split at hl
      .rename_i hc;simp only[V3]at hl;obtain⟨x',hx,hl⟩:=hl;cases hl;have:=Ly (ty:=o.type) hM hE hu hi hz hc hx h;unfold eM at this|-;simpa[resolve,invoke,builtin]using this
      .cases hl
     .cases hl
    .cases hl
end
section
variable {P:Program}
def Ec:Exit->Option Ex
 | .normal=>some .normal
 | .exit id=>some (.exit id)
 | .ret=>some .ret
 |_=>none
def GZ(N:Nat)(ρ:b9)(w:World)(ds:List Deferred):Prop:=
 ∃Ds:List Nat,ds=Ds.map (λD=>{target:= .collected D,args:= #[]})/\Ds.Nodup/\∀D,D∈Ds->N<=D/\ρ.S D/\w.heap[D]? =some (.deferred (some []))
theorem GZ.nil{N:Nat}{ρ:b9}{w:World}:GZ N ρ w []:=⟨[],rfl,List.nodup_nil,aG⟩
theorem GZ.ext{N:Nat}{ρ U':b9}{m m':Mem}{w w':World}{ds:List Deferred}(hM:aN ρ m w)(x:Ext ρ m w U' m' w')(h:GZ N ρ w ds):GZ N U' w' ds:=by
 obtain⟨Ds,h1,h2,h3⟩:=h;refine⟨Ds,h1,h2,λD hD=>?_⟩
 obtain⟨g1,g2,g3⟩:=h3 D hD;exact⟨g1,x.S D g2,(x.frame D (hM.S D g2) λk hk e=>(hM.aF k hk).2 (e▸g2)).trans g3⟩
theorem GZ.s{N:Nat}{ρ U':b9}{w:World}{ds:List Deferred}(hS:∀b,ρ.S b->U'.S b)(h:GZ N ρ w ds):GZ N U' w ds:=by obtain⟨Ds,h1,h2,h3⟩:=h;exact⟨Ds,h1,h2,λD hD=>⟨(h3 D hD).1,hS D (h3 D hD).2.1,(h3 D hD).2.2⟩⟩
structure Inv(N:Nat)(ρ0:b9)(m0:Mem)(w0:World)(st:St)(ρ:b9)(a:Act)(w:World):Prop where
 ext:Ext ρ0 m0 w0 ρ st.mem w
 mem:aN ρ st.mem w
 ba:bu ρ w st.ba a.tmps
 defers:GZ N ρ w a.defers
 hN:N<=w0.heap.size
 n0:m0.length<=st.mem.length
def Cn(N:Nat)(ρ0:b9)(m0:Mem)(w0:World)(K:Ex->St->Prop)(e:Exit)(a:Act)(w:World):Prop:=
 ∃ex st ρ,Ec e=some ex/\K ex st/\Inv N ρ0 m0 w0 st ρ a w
variable {N:Nat} {ρ0:b9} {m0:Mem} {w0:World}
theorem Inv.step{ba:List CV}{m m':Mem}{ρ U':b9}{a:Act}{w w':World}{d:Option Nat}{c:CV}{v:Value}(h:Inv N ρ0 m0 w0 ⟨ba,m⟩ ρ a w)(hM:aN U' m' w')(hd:cG U' w' c v)(hx:Ext ρ m w U' m' w'){K:List CV->Prop}(hp:put d c ba K):
  ∃gD,K gD/\Inv N ρ0 m0 w0 ⟨gD,m'⟩ U' (a.put d v) w':=by
 obtain⟨gD,hK,hE,hdf⟩:=(h.ba.ext h.mem hx:bu U' w' ba a.tmps).put hd hp;refine⟨gD,hK,h.ext.trans hx,hM,hE,hdf▸h.defers.ext h.mem hx,h.hN,?_⟩;have h1:=h.n0;have h2:=h.mem.n;have h3:=hM.n;have h4:=hx.n;simp only at h1 h2|-;omega
theorem Ed{o:Oper}{i:I}{ba:List CV}{m:Mem}{ρ:b9}{a:Act}{w:World}{K:List CV->Mem->Prop}{next:Act->World->Prop}{Q:Exit->Act->World->Prop}(hl:tj P o=some i)(h:Inv N ρ0 m0 w0 ⟨ba,m⟩ ρ a w)(hs:step P i ba m λv m'=>put o.dst v ba λe'=>K e' m')(hn:∀gD m' U' a' w',K gD m'->Inv N ρ0 m0 w0 ⟨gD,m'⟩ U' a' w'->next a' w'):o.wp P a w next Q:=by
 rcases Gu hl with hl|rfl
 case inr=>rw[SD]at hs;exact hs.elim
 by_cases hc:∃f xs ts,o.op= .call {callee:= .value f,args:=xs,argTypes:=ts}
 .obtain⟨f,xs,ts,e8⟩:=hc;have Zp:∃f' Jo,i= .call f' Jo/\bG f=some f'/\v8 xs.toList=some Jo:=by unfold xZ at hl;rw[e8]at hl;simp only[XX,V3]at hl;obtain⟨f1,hf,xs1,hx,hl⟩:=hl;cases hl;exact⟨f1,xs1,rfl,hf,hx⟩
  obtain⟨f',Jo,rfl,hf,hx⟩:=Zp;have hd:=aU h.ba hf;simp only[step]at hs;split at hs
  .rename_i g fc hfe;rw[hfe]at hd;obtain⟨OJ,hv⟩:=hd;obtain⟨⟨fn,Zt,Vy,Jt⟩,wy⟩:=hs;obtain⟨e1,e2⟩:=uT h.ba hx;simp only[cw,ya]at wy;have hb:fn.body≠none:=by intro e;rw[e]at Vy;cases Vy
   have SO:fn.name≠ "runtime.NumGoroutine" :=by intro e;rw[e]at Jt;simp at Jt
   have fv:(execOp a.eval o).run P w= .ok (.enter g (xs.map a.eval++(fc.map λid=>Value.pointer (some ⟨(ρ.aW (.aA id)).b,(ρ.aW (.aA id)).aB,none⟩)).toArray)) w:=by unfold execOp;rw[e8];simp[resolve,hv,Deferred.ofValue,invoke,callFunc,Zt,SO,hb]
   unfold Oper.wp;rw[fv,Oper.upon_enter];have Co:=wy ρ w (xs.toList.map a.eval++fc.map λid=>Value.pointer (some ⟨(ρ.aW (.aA id)).b,(ρ.aW (.aA id)).aB,none⟩)) h.mem (by simp[e1]) (λi c hi=>by
    rcases aaD i (Jd ba Jo).length with ay|eO
    .rw[aaM ay]at hi;obtain⟨v,Al,Gb⟩:=e2 i c hi;exact⟨v,by rw[aaM (by simpa[e1]using ay)];exact Al,Gb⟩
    .rw[aaO eO]at hi;rw[aaO (by simpa[e1]using eO)]
     rw[Rn]at hi;cases hk:fc[i-(Jd ba Jo).length]? with
     |none=>rw[hk]at hi;cases hi
     |some id=>
      rw[hk]at hi;simp only[aaS,abi]at hi;subst hi;refine⟨_,by rw[P2,<-e1,Rn,hk];rfl,OJ id (Wm hk),aG⟩)
   have ez:(xs.toList.map a.eval++fc.map λid=>Value.pointer (some ⟨(ρ.aW (.aA id)).b,(ρ.aW (.aA id)).aB,none⟩)).toArray=
     xs.map a.eval++(fc.map λid=>Value.pointer (some ⟨(ρ.aW (.aA id)).b,(ρ.aW (.aA id)).aB,none⟩)).toArray:=by
    apply adH;simp
   rw[ez]at Co;refine Co.mono λe w' hR=>?_
   obtain⟨v,r,m',U',rfl,hK,oq,Cp,w9⟩:=hR;obtain⟨gD,Ju,hI⟩:=h.step (d:=o.dst) oq Cp w9 hK;exact hn gD m' U' _ w' Ju hI
  .exact hs.elim
 .obtain⟨nx,v,w',cv,m',U',hr,hnx,hK,oq,Cp,w9⟩:=GX hl (λf xs ts e=>hc ⟨f,xs,ts,e⟩) h.mem h.ba hs
  obtain⟨gD,Ju,hI⟩:=h.step (d:=o.dst) oq Cp w9 hK;unfold Oper.wp;rw[hr];rcases hnx with rfl|⟨rfl,rfl⟩
  .exact hn gD m' U' _ w' Ju hI
  .exact hn gD m' U' _ w' Ju hI
theorem u4{ops:Array Oper}:∀{l:List Oper}{cy:List LO},og P ops l=some cy->∀(o:Oper)(r:List Oper),l=o::r->∃lo lr,cy=lo::lr/\x4 P ops o=some lo/\og P ops r=some lr:=by rintro l cy h o r rfl;simp only[og,XX,V3]at h;obtain⟨lo,h1,lr,h2,h3⟩:=h;cases h3;exact⟨lo,lr,rfl,h1,h2⟩
theorem Cr{ba:List CV}{s:Nat}{t:Bool}(h:lV ba s=ar t):aZ ba s (ar t)=ba:=by
 rw[br];rw[nj]at h;cases hg:ba[s]? with
 |none=>rw[hg]at h;cases h
 |some c=>
  rw[hg]at h;simp only[adl]at h;subst h;exact acq λi=>by
   by_cases hi:s=i
   .subst hi;rw[aal (Mp.1 hg).1,hg]
   .rw[aap hi]
theorem yq{ops:Array Oper}{Q:Exit->Act->World->Prop}{K:List CV->Mem->Prop}(hQ:∀ba m ρ a w,K ba m->Inv N ρ0 m0 w0 ⟨ba,m⟩ ρ a w->Q .normal a w):
  ∀(l:List Oper)(k:Nat)(cy:List LO)(ba:List CV)(m:Mem)(ρ:b9)(a:Act)(w:World),ops.toList.drop k=l->og P ops l=some cy->Ld P cy K ba m->Inv N ρ0 m0 w0 ⟨ba,m⟩ ρ a w->
   wpOps P ops Q (List.range' k l.length) a w
 | [],k,cy,ba,m,ρ,a,w,hl,l5,h,hI=>by simp[og]at l5;subst l5;exact hQ ba m ρ a w h hI
 |o::r,k,cy,ba,m,ρ,a,w,hl,l5,h,hI=>by
  obtain⟨lo,lr,rfl,h1,h2⟩:=u4 l5 o r rfl;have k7:ops[k]? =some o:=by
   have:(ops.toList.drop k)[0]? =some o:=by rw[hl];rfl
   simpa using this
  have hr:ops.toList.drop (k+1)=r:=by rw[<-List.tail_drop,hl];rfl
  have ih:=λba m ρ a w=>yq hQ r (k+1) lr ba m ρ a w hr h2
  simp only[x4,XX,V3]at h1;obtain⟨i,hi,g,hg,h1⟩:=h1;cases h1;simp only[aaY,aeJ,wpOps,k7];have skip:∀(e:List CV),Inv N ρ0 m0 w0 ⟨e,m⟩ ρ a w->(put o.dst .undef e λe'=>Ld P lr K e' m)->wpOps P ops Q (List.range' (k+1) r.length) (a.put o.dst Go.undef) w:=λe hIe hp=>by obtain⟨gD,Ju,rI⟩:=hIe.step (d:=o.dst) (c:= .undef) (v:=Go.undef) hIe.mem rfl (Ext.refl _ _ _) hp;exact ih _ _ _ _ _ Ju rI
  have exec:∀(e:List CV),Inv N ρ0 m0 w0 ⟨e,m⟩ ρ a w->(step P i e m λv m'=>put o.dst v e λe'=>Ld P lr K e' m')->o.wp P a w (wpOps P ops Q (List.range' (k+1) r.length)) Q:=λe hIe hp=>
   Ed hi hIe hp λgD m' U' a' w' Ju rI=>ih _ _ _ _ _ Ju rI
  cases Jv:o.guard with
  |none=>
   rw[Jv]at hg;simp[Oe]at hg;subst hg;have hw:Region.wanted o (yielded ops a.tmps)=true:=by simp[Region.wanted,Jv]
   rw[if_pos hw];simp only[AT,Jj,fO]at h;exact .inl (exec ba hI h)
  |some jb=>
   obtain⟨j,lC⟩:=jb;rw[Jv]at hg;simp only[Oe,XX,V3]at hg;obtain⟨oj,WW,s,hs,hg⟩:=hg;cases hg;have hy:yielded ops a.tmps j=match a.tmps[s]? with|some (.bool b)=>some b|_=>none:=by simp[yielded,WW,hs];rfl
   simp only[AT,Jj]at h;split at h
   .rename_i eO;have cL:=hI.ba.get s;rw[eO]at cL;have hu:a.tmps[s]? =some Go.undef\/a.tmps[s]? =none:=by
     simp only[cG,adp]at cL;cases ht:a.tmps[s]? with
     |none=>exact .inr rfl
     |some v=>rw[ht]at cL;simp at cL;exact .inl (by rw[cL])
    have hw:Region.wanted o (yielded ops a.tmps)=false:=by
     simp only[Region.wanted,Jv,hy];rcases hu with hu|hu<;>rw[hu]<;>rfl
    rw[if_neg (by simp[hw])]
    exact skip ba hI h
   .rename_i t eO;have cL:=hI.ba.get s;rw[eO]at cL;have ht:a.tmps[s]? =some (.bool t):=by
     have:=(cf cL).1;rw[adp]at this;cases ht:a.tmps[s]? with
     |none=>rw[ht]at this;cases this
     |some v=>rw[ht]at this;simp at this;rw[this]
    have hw:Region.wanted o (yielded ops a.tmps)=(t==lC):=by simp[Region.wanted,Jv,hy,ht]
    have tz:∀b,t=b->aZ ba s (ar b)=ba:=λb hb=>by subst hb;exact Cr eO
    rcases cU.1 h with⟨rfl,h⟩|⟨rfl,h⟩
    .simp only[fO,tz true rfl]at h;cases lC with
     |true=>rw[if_pos (by simp[hw])];exact .inl (exec ba hI h)
     |false=>rw[if_neg (by simp[hw])];exact skip ba hI h
    .simp only[fO,tz false rfl]at h;cases lC with
     |false=>rw[if_pos (by simp[hw])];exact .inl (exec ba hI h)
     |true=>rw[if_neg (by simp[hw])];exact skip ba hI h
   .exact h.elim
theorem bJ.dR{ρ:b9}{w:World}{pos:Option (Nat×Nat×Nat)}{c:CC}{v:Value}(h:bJ ρ w pos c v):c.dR ρ.n:=by
 cases c<;>simp only[bJ]at h<;>simp only[CC.dR]
 case ptr=>exact h.1
 case oU=>exact h.1
 case row=>exact h.1
 case map=>exact h.1
 case fn=>exact h.1
theorem eU.dR{ρ:b9}{w:World}{r:RV}{v:Value}(h:eU ρ w r v):r.dR ρ.n:=by
 cases r with
 |one c=>exact bJ.dR h
 |agg cs=>
  obtain⟨vs,_,_,hc⟩:=h;intro c tm;obtain⟨i,hi⟩:=aag tm;obtain⟨u,_,hd⟩:=hc i c hi;exact hd.dR
theorem cG.dR{ρ:b9}{w:World}{c:CV}{v:Value}(h:cG ρ w c v):c.dR ρ.n:=by
 cases c with
 |aL=>trivial
 |undef=>trivial
 |rv r=>exact eU.dR h
 |bI rs=>
  obtain⟨vs,_,_,hc⟩:=h;intro r hr;obtain⟨i,hi⟩:=aag hr;obtain⟨u,_,hd⟩:=hc i r hi;exact hd.dR
theorem ft.dR{ρ:b9}{w:World}{id:Nat}{b:Bk}(h:ft ρ w id b):b.dR ρ.n:=by
 cases b with
 |aE=>trivial
 |var cs=>
  obtain⟨cur,_,hc⟩:=h;intro c tm;obtain⟨i,hi⟩:=aag tm;obtain⟨u,_,hd⟩:=hc i c hi;exact hd.dR
 |row esz elems=>
  obtain⟨h1,h2,h3,h4,h5⟩:=h;intro cs fF c tm;obtain⟨i,hi⟩:=aag fF;obtain⟨j,hj⟩:=aag tm;have ay:=(Mp.1 hi).1;obtain⟨cur,_,_,hc⟩:=h5 om;obtain⟨u,_,hd⟩:=hc i cs j c hi hj;exact hd.dR
 |mp es=>
  obtain⟨fH,ck,_,_,hc⟩:=h;intro e he;obtain⟨i,hi⟩:=aag he;obtain⟨e',_,_,hd⟩:=hc i e hi;exact hd.dR
theorem oh.get:∀{m m':Mem},oh m m'->∀(i:Nat)b',m'[i]? =some b'->b'= .aE\/m[i]? =some b'
 |_,_,.nil m,i,b',h=>by simp at h
 |_,_,.cons (b:=b) (b':=b1) (m:=m) (m':=m') h hm,i,b',hi=>by
  cases i with
  |zero=>simp at hi;subst hi;rcases h with rfl|rfl<;>simp
  |succ i=>simpa using hm.get i b' (by simpa using hi)
theorem Oi.aeR{n0:Nat}{s s':St}{ρ:b9}{w:World}(h:Oi n0 s s')(hM:aN ρ s.mem w):∀b,b∈s'.mem->b.dR s'.mem.length:=by
 rcases h.lN with he|hi
 .intro b hb;obtain⟨i,hi⟩:=aag hb;rcases h.mem.get i b hi with rfl|uY
  .trivial
  .have:=(hM.bk i b uY).dR;rw[he,<-hM.n];exact this
 .exact hi
theorem Oi.view{n0:Nat}{s s':St}(hw:Oi n0 s s'):View n0 s s':=by
 refine⟨hw.n0,hw.len,λρ w m5=>?_⟩
 obtain⟨hM,dj⟩:=m5.Ok hw.mem (hw.aeR m5);refine⟨{ρ with n:=s'.mem.length},hM,⟨λ_ _=>rfl,λ_ h=>h,λ_ h=>.inl h,λk hk=>⟨k,dj k hk,rfl⟩⟩,λi c hi=>?_⟩
 rcases hw.ba i c hi with rfl|⟨fm,Ol⟩
 .have ay:i<s.ba.length:=by rw[<-hw.len];exact(Mp.1 hi).1
  exact⟨_,xm ay,λ_ _=>trivial⟩
 .refine⟨c,fm,λv hd=>?_⟩
  have aan:c.dR s'.mem.length:=by
   rcases Ol with he|Ol
   .rw[he,<-m5.n];exact hd.dR
   .exact Ol
  exact hd.cut aan
theorem Inv.Ok{st kH:St}{ρ:b9}{a:Act}{w:World}(hI:Inv N ρ0 m0 w0 st ρ a w)(m5:ρ0.n=m0.length)(hw:View m0.length st kH):∃U',Inv N ρ0 m0 w0 kH U' a w:=by
 obtain⟨U',hM,hc,hd⟩:=hw.go ρ w hI.mem;refine⟨U',⟨by rw[m5,hM.n];exact hw.hn,λid hid=>(hc.aW id (by rw[<-m5];exact hid)).trans (hI.ext.aW id hid),λb hb=>hc.S b (hI.ext.S b hb),λb hb=>?_,λk hk=>?_,hI.ext.frame,hI.ext.size,hI.ext.os,hI.ext.tape,hI.ext.output⟩,hM,?_,hI.defers.s hc.S,hI.hN,hw.hn⟩
 .rcases hc.S' b hb with h|⟨k,hk,rfl⟩
  .exact hI.ext.S' b h
  .exact .inr (hI.ext.aF k hk)
 .obtain⟨k0,h0,e0⟩:=hc.aF k hk;rw[<-e0];exact hI.ext.aF k0 h0
 .refine⟨hI.ba.size.trans hw.len.symm,λi c hi=>?_⟩
  obtain⟨c0,s7,Gf⟩:=hd i c hi;obtain⟨v,hv,z8⟩:=hI.ba.mB i c0 s7;exact⟨v,hv,Gf v z8⟩
end
section
variable {P:Program}
theorem aq.mono{f:Nat}{args:List CV}{m:Mem}{K K':CV->Mem->Prop}(h:aq P f args m K)(hK:∀v m',K v m'->K' v m'):aq P f args m K':=
 ⟨h.1,λρ w vs hM hl hd=>(h.2 ρ w vs hM hl hd).mono λe w'⟨v,r,m',U',he,hk,td⟩=>⟨v,r,m',U',he,hK _ _ hk,td⟩⟩
theorem G0{i:I}(hq:uR i=true){e:List CV}{m:Mem}{K:CV->Mem->Prop}(h:step P i e m K):
  ∃v,K v m/\∀K':CV->Mem->Prop,K' v m->step P i e m K':=by
 cases i<;>simp[uR,AR]at hq
 case load agg n a=>
  simp only[step,xV,be,cU]at h|-;repeat' split at h
  all_goals(try exact h.elim)
  all_goals grind
 all_goals simp only[step,be,cU]at h|-
 all_goals(repeat' split at h)
 all_goals(try exact h.elim)
 all_goals(try(exact⟨_,h,λ_ h=>h⟩))
 all_goals grind
theorem LD{i:I}(hq:AR i=true){e:List CV}{m:Mem}{K:CV->Mem->Prop}(h:step P i e m K):
  ∃v,K v m/\∀(m':Mem)(K':CV->Mem->Prop),K' v m'->step P i e m' K':=by
 cases i<;>simp[AR]at hq
 all_goals simp only[step,be,cU]at h|-
 all_goals(repeat' split at h)
 all_goals(try exact h.elim)
 all_goals(try(exact⟨_,h,λ_ _ h=>h⟩))
 all_goals grind
theorem A8{i:I}{e:List CV}{m:Mem}{K K':CV->Mem->Prop}(h:step P i e m K)(hK:∀v m',K v m'->K' v m'):step P i e m K':=by
 cases i
 case call f args=>
  simp only[step]at h|-;split at h
  .exact h.mono hK
  .exact h.elim
 case load agg n a=>
  simp only[step,xV,be,cU]at h|-;repeat' split at h
  all_goals(try exact h.elim)
  all_goals grind
 case len k x=>
  simp only[step,be,cU]at h|-;repeat' split at h
  all_goals(try exact h.elim)
  all_goals grind
 all_goals simp only[step,be,cU,kZ,fO]at h|-
 all_goals(try exact hK _ _ h)
 all_goals(try(repeat' split at h))
 all_goals(try exact h.elim)
 all_goals(try exact hK _ _ h)
 all_goals grind
theorem u5{e e':List CV}:∀{xs:List X},(∀x,x∈xs->x.ev e=x.ev e')->Jd e xs=Jd e' xs
 | [],_=>rfl
 |x::r,h=>by simp only[Jd];rw[h x aG,u5 λy hy=>h y (by simp[hy])]
theorem wz{e e':List CV}:∀{ps:List (Nat×Nat×X)}{z:List CC},(∀x,x∈ps.map (λp=>p.2.2)->x.ev e=x.ev e')->qq e z ps=qq e' z ps
 | [],_,_=>rfl
 |(o,s,x)::r,z,h=>by
  simp only[qq];rw[h x aG];have ih:=λz=>wz (ps:=r) (z:=z) λy hy=>h y (by simp at hy|-;exact .inr hy)
  simp only[ih]
theorem wA{e e':List CV}{esz:Nat}:∀{ps:List (Nat×X)}{z:List (List CC)},(∀x,x∈ps.map (λp=>p.2)->x.ev e=x.ev e')->v7 e esz z ps=v7 e' esz z ps
 | [],_,_=>rfl
 |(i,x)::r,z,h=>by
  simp only[v7];rw[h x aG];have ih:=λz=>wA (esz:=esz) (ps:=r) (z:=z) λy hy=>h y (by simp at hy|-;exact .inr hy)
  simp only[ih]
theorem G1{i:I}{e e':List CV}{m:Mem}{K:CV->Mem->Prop}(hx:∀x,x∈i.xs->x.ev e=x.ev e')(h:step P i e m K):step P i e' m K:=by
 cases i<;>simp only[I.xs,abH,adA,or_false,forall_eq_or_imp,forall_eq]at hx
 case build z ps=>simpa only[step,wz hx]using h
 case Zi esz z len ps=>simpa only[step,wA hx]using h
 case fn f fc=>simpa only[step,u5 hx]using h
 case call f args=>simpa only[step,hx.1,u5 hx.2]using h
 case load agg n a=>simpa only[step,xV,hx]using h
 case sf mx xs=>
  rcases xs with _|⟨x,_|⟨y,_|⟨z,r⟩⟩⟩
  .exact h
  .exact h
  .have h1:=hx x aG;have h2:=hx y aG;simpa only[step,h1,h2]using h
  .exact h
 case WC esz x lo hi mx=>
  have OK:∀(o:Option X)(d:Nat),(∀y,y∈o.toList->y.ev e=y.ev e')->mw e o d=mw e' o d:=λo d ho=>by
   cases o with
   |none=>rfl
   |some y=>simp only[mw];rw[ho y aG]
  have hz:∀(o:Option X),(∀y,y∈o.toList->y.ev e=y.ev e')->Gs e o=Gs e' o:=λo ho=>by
   cases o with
   |none=>rfl
   |some y=>simp only[Gs];rw[ho y aG]
  have h1:∀d,mw e lo d=mw e' lo d:=λd=>OK lo d λy hy=>hx.2 y (by simp[hy])
  have h2:∀d,mw e hi d=mw e' hi d:=λd=>OK hi d λy hy=>hx.2 y (by simp[hy])
  have h3:Gs e hi=Gs e' hi:=hz hi λy hy=>hx.2 y (by simp[hy])
  cases mx with
  |none=>simpa only[step,hx.1,h1,h2]using h
  |some y=>
   have h4:y.ev e=y.ev e':=hx.2 y aG;simpa only[step,hx.1,h1,h2,h3,h4]using h
 case La x lo hi=>
  have OK:∀(o:Option X)(d:Nat),(∀y,y∈o.toList->y.ev e=y.ev e')->mw e o d=mw e' o d:=λo d ho=>by
   cases o with
   |none=>rfl
   |some y=>simp only[mw];rw[ho y aG]
  have h1:∀d,mw e lo d=mw e' lo d:=λd=>OK lo d λy hy=>hx.2 y (by simp[hy])
  have h2:∀d,mw e hi d=mw e' hi d:=λd=>OK hi d λy hy=>hx.2 y (by simp[hy])
  simpa only[step,hx.1,h1,h2]using h
 case len k x=>
  match k with
  |0=>simpa only[step,hx]using h
  |1=>simpa only[step,hx]using h
  |2=>simpa only[step,hx]using h
  |k+3=>simpa only[step,hx]using h
 all_goals first
  |(simpa only[step,hx,hx.1,hx.2]using h)
  |(simpa only[step,hx]using h)
  |(simpa only[step]using h)
end
end Go.AM
