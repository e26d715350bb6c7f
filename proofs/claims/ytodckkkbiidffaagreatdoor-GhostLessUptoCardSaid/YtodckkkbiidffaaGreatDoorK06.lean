/- Part 6 of 16. -/
import Derived.Test.YtodckkkbiidffaaGreatDoorK02
import Derived.Test.YtodckkkbiidffaaGreatDoorK03
import Derived.Test.YtodckkkbiidffaaGreatDoorK04
import Derived.Test.YtodckkkbiidffaaGreatDoorK05
import Derived.WideKeyRuns
import Derived.Laws.IdiomStrings
import Derived.Laws.MakeOwn
import Derived.MapKept
import Derived.Maps.RangeRun
set_option linter.unusedVariables false
set_option linter.unusedSimpArgs false
set_option linter.unnecessarySimpa false
set_option maxRecDepth 100000
set_option maxHeartbeats 0
namespace Go.AM
open Go.MapKept
section
variable {P:Program} {ρ:bI} {m:Mem} {w:World} {aX:List CV} {a:Act} {K:CV->Mem->Prop}
theorem zL:∀{E:List (List CC)}{xs:List Int},wD E=some xs->E=xs.map λn=>[.ah (.val (.int .u8 n))]
 | [],xs,h=>by simp[wD]at h;subst h;rfl
 |cs::r,xs,h=>by
  unfold wD at h;split at h
  .rename_i heq;cases heq
  .rename_i n r' heq;cases heq;split at h
   .rename_i l hl;cases h;rw[zL hl];rfl
   .cases h
  .cases h
theorem Jt(hM:ay ρ m w)(hE:bl ρ w aX a.tmps){s d e:TypeId}{x:Operand}{x':X}(hs:P.underlying s=some (.slice e))(he:P.underlying e=some (.int .u8))(hd:P.underlying d=some .string)(hx:bn x=some x')(h:step P (.VR x') aX m K):dd P (do pure (Next.value (<-convert s d (a.eval x)))) ρ m w K:=by
 have cq:=aR hE hx;simp only[step]at h;obtain⟨E,AY,h⟩:=aU.1 h;obtain⟨xs,hxs,hK⟩:=aU.1 h;obtain⟨ad,cap,vs,hv,h1,h2,F⟩:=nO hM AY cq;have hEx:=zL hxs;have EO:∀i,i<xs.length->vs[i]? =some (.int .u8 (xs.getD i 0)):=by
  intro i hi;have hg:E[i]? =some [.ah (.val (.int .u8 xs[i]))]:=by rw[hEx,Tm,vU hi];rfl
  obtain⟨u,hu,cy⟩:=F.jS i _ 0 _ hg rfl;cases cy with
  |val v hp=>
   rw[show i=i*1+0 by omega,hu]
   simp[List.getD,vU hi]
 have hlen:E.length=xs.length:=by rw[hEx];simp
 refine dd.pure hM (v:= .string (strOfNums xs)) ?_ hK (cA rfl);rw[hv,Sem.run_bind];rcases abi E.length with h0|h0
 .have W0:xs=[]:=aag om;subst W0;rw[h0];cases ad with
  |none=>rw[run_convert_bytes_nil (P:=P) w s e hs he 0 cap d hd];rfl
  |some ad=>
   obtain⟨b,off,sp⟩:=ad;have:(convert s d (.slice (some ⟨b,off,sp⟩) 0 cap)).run P w= .ok (.string (strOfNums [])) w:=by
    rw[run_convert_bytes_string w s d e _ 0 cap hs he hd,run_bytesToString w _ 0 cap [] (by simp[loadCells,loadCellsFrom])]
    rfl
   rw[this];rfl
 .obtain⟨b,off,rfl,hc⟩:=F.Mn h0;rw[run_convert_bytes_arg (P:=P) w s e hs he b off E.length cap xs hlen.symm (λi hi=>hc i _ (EO i om)) d hd]
  rfl
theorem rX(hM:ay ρ m w){esz cap:Nat}{elems:List (List CC)}{cells:Array Value}{w':World}(SA:eN w w')(bX:mE (esz=1) w' w.heap.size cells)(dk:cap*esz<=cells.size)(hlen:elems.length<=cap)(be:cap<=maxLen)(oh:∀cs,cs∈elems->cs.length=esz)(hd:∀(i:Nat)cs(j:Nat)c,elems[i]? =some cs->cs[j]? =some c->∃u,cells[i*esz+j]? =some u/\bj ρ w .none c u):
  ∃U',ay U' (m++ [.row esz elems]) w'/\Ext ρ m w U' (m++ [.row esz elems]) w'/\
   ce U' w' (.rv (.one (.row m.length esz 0 none))) (.slice (some ⟨w.heap.size,0,none⟩) elems.length cap):=by
 have aC:w.heap.size<w'.heap.size:=bX.lt;let l:wu:=⟨w.heap.size,0,elems.length,cap⟩;have hn:=hM.n;have bO:(ρ.push l).aI (.aj m.length)=l:=by rw[<-hn];exact ρ.gi l
 have g:iL ρ w (ρ.push l) w':=⟨by simp[bI.push],λk hk=>ρ.eU l hk,λb hb=>hb,λb hb=>SA.heap b (hM.S b hb)⟩
 have hb:cJ (ρ.push l) w' m.length (.row esz elems):=by
  refine⟨by rw[bO],by rw[bO];exact hlen,by rw[bO];exact be,oh,λ_=>⟨cells,by rw[bO];exact bX,by rw[bO];simpa[l]using dk,λi cs j c hi hj=>?_⟩⟩
  obtain⟨u,hu,cy⟩:=hd i cs j c hi hj;exact⟨u,by rw[bO];simpa[l]using hu,(cy.cm g aE).wO _⟩
 obtain⟨h1,h2⟩:=hM.push (l:=l) SA (Ym _) aC hb (λi cs j c hi hj=>by obtain⟨u,hu,cy⟩:=hd i cs j c hi hj;exact cy.AS)
 refine⟨_,h1,h2,by simp[bI.push,hn],?_⟩
 rw[bO];refine⟨aE,aE,hlen,be,_,rfl,λ_=>?_⟩
 simp[l]
theorem Ju(hM:ay ρ m w)(hE:bl ρ w aX a.tmps){s d e:TypeId}{x:Operand}{x':X}(hs:P.underlying s=some .string)(hd:P.underlying d=some (.slice e))(he:P.underlying e=some (.int .u8))(hx:bn x=some x')(h:step P (.Wr x') aX m K):dd P (do pure (Next.value (<-convert s d (a.eval x)))) ρ m w K:=by
 have cq:=aR hE hx;simp only[step]at h;generalize a.eval x=v at cq|-;generalize x'.ev aX=c at cq h;split at h
 .rename_i str;obtain⟨rfl,hp⟩:=bF cq;obtain⟨dk,hK⟩:=h;rw[gP,cg]at hK;have d8:=grownCap_ge w str.size 0 e;have hle:grownCap w str.size 0 e<=maxLen:=grownCap_le_maxLen w _ 0 e (by unfold maxLen;omega)
  have fe:(bytesRow str (grownCap w str.size 0 e)).size=grownCap w str.size 0 e:=by simp only[bytesRow,Array.size_append,Array.size_map,Array.size_replicate];have:str.data.size=str.size:=rfl;omega
  have hlen:(qW str).length=str.size:=by simp[qW]
  obtain⟨U',g1,g2,g3⟩:=rX hM (esz:=1) (cap:=grownCap w str.size 0 e) (elems:=qW str) (cells:=bytesRow str (grownCap w str.size 0 e))
   (w':=w.drew.alloc (.cells (bytesRow str (grownCap w str.size 0 e)) e ((bytesRow str (grownCap w str.size 0 e)).size,(bytesRow str (grownCap w str.size 0 e)).size+1)))
   ((eN.drew w).trans (eN.alloc w.drew _)) ⟨e,_,heap_alloc_new w.drew _,aE,(λi hi=>by simp;omega),.inl rfl⟩ (by rw[fe];omega) (by rw[hlen];exact d8) hle
   (λcs fe=>by simp only[qW,aal]at fe;obtain⟨_,_,rfl⟩:=fe;rfl)
   (λi cs j c hi hj=>by
    simp only[qW,Tm]at hi;obtain⟨b,hb,rfl⟩:=aaz.1 hi;cases j with
    |zero=>
     simp at hj;subst hj;refine⟨.int .u8 b.toNat,?_,.val _ rfl⟩;have tM:str.data[i]? =some b:=by simpa using hb
     have aC:=(aaC.1 tM).1;simp only[bytesRow,Nat.mul_one,ac6];rw[acY (by simpa using aC),adT,tM]
     rfl
    |succ j=>simp at hj)
  rw[hlen]at g3;exact⟨_,_,_,_,_,U',by rw[Sem.run_bind,run_bytes_of_string w s d e str hs hd he];rfl,.inl rfl,hK,g1,g3,g2⟩
 .exact h.elim
theorem yY(hM:ay ρ m w)(hE:bl ρ w aX a.tmps){t e:TypeId}{i:TypeInfo}{z:List CC}{x y:Operand}{x' y':X}(ht:P.underlying t=some (.slice e))(hi:P.info? e=some i)(hz:ek P e=some z)(dk:i.size=z.length)(cI:0<z.length)(hb:0<i.bytes)(hx:bn x=some x')(hy:bn y=some y')(h:step P (.pP i.size i.bytes z x' y') aX m K):dd P (do pure (Next.value (<-Instr.makeSlice t (a.eval x) (a.eval y)))) ρ m w K:=by
 simp only[step]at h;obtain⟨l,hl,h⟩:=aU.1 h;obtain⟨c,hc,h⟩:=aU.1 h;rcases cn.1 h with⟨oT,h⟩|⟨_,h⟩
 case inr=>exact h.elim
 have oT:l=c:=aai oT;subst oT;obtain⟨kT,hK⟩:=h;rw[gP,cg]at hK;have nat:∀{c:CV}{v:Value}{k:Nat},qV c=some k->ce ρ w c v->∃kd,v= .int kd (k:Int):=by
  intro c v k h hd;unfold qV at h;split at h
  .cases h;obtain⟨rfl,_⟩:=bF hd;exact⟨_,rfl⟩
  .cases h
 obtain⟨kl,yZ⟩:=nat hl (aR hE hx);obtain⟨kc,W4⟩:=nat hc (aR hE hy);have EM:=hz;simp only[ek,U6,N7]at EM;obtain⟨i',eO,zv,Qi,Qe⟩:=EM;rw[hi]at eO;cases eO;obtain⟨hzl,Jv⟩:=ft (ρ:=ρ) (w:=w) Qe;have PW:zv.cells.size=z.length:=by simpa using hzl
 have Fk:l<=140737488355328:=abD (ady _ hb) kT;obtain⟨U',g1,g2,g3⟩:=rX hM (esz:=i.size) (cap:=l) (elems:=gI l z) (cells:=madeCells zv.cells (l*i.size)) (w':=w.alloc (.cells (madeCells zv.cells (l*i.size)) e))
  (eN.alloc w _) (mE.new w _ e) (by rw[size_madeCells];exact Ym _) (by rw[fY];simp) (by unfold maxLen;omega)
  (λcs fe=>by rw[fY]at fe;rw[acM fe,dk])
  (λk cs j cc hk hj=>by
   rw[fY]at hk;have kM:=(Km.1 hk).1;simp at kM;have fe:cs=z:=by have:=Tp hk;exact acM this
   subst fe;have y3:=(Km.1 hj).1;obtain⟨u,hu,cy⟩:=Jv j cc hj;refine⟨u,?_,cy⟩;have aC:k*i.size+j<l*i.size:=by have:(k+1)*i.size<=l*i.size:=aaZ _ kM;rw[abf,ab3]at this;omega
   simp only[madeCells,adT,Array.getElem?_range];rw[if_pos aC];simp only[aaD,aav];have hm:(k*i.size+j)%zv.cells.size=j:=by rw[PW,dk,adw,aec,ad5 y3]
   rw[hm];have vK:zv.cells[j]? =some u:=by simpa using hu
   rw[getElem!_def,vK])
 have W5:(gI l z).length=l:=by rw[fY];simp
 rw[W5]at g3;refine⟨_,_,_,_,_,U',?_,.inl rfl,hK,g1,g3,g2⟩;rw[yZ,W4,Sem.run_bind,run_make (P:=P) w t e i zv ht hi Qi kl kc (l:Int) (l:Int) om (adC _) ?_ om]
 .rfl
 .have:i.bytes*l<=140737488355328:=by rw[adw];exact kT
  have h2:((i.bytes*l:Nat):Int)<=((140737488355328:Nat):Int):=Int.ofNat_le.2 this;rw[Int.natCast_mul]at h2;exact Int.le_trans h2 om
def gK:Ky->TypeDesc
 | .i k=>.int k
 | .s=>.string
 | .b=>.bool
 | .a2 _=>.bool
def mj(kk:Ky)(v:Value):Bool:=cw v&&kR kk v
theorem wX{kk:Ky}{v:Value}(h:kR kk v=true)(hp:cw v=true):mj kk v=true:=by simp[mj,h,hp]
theorem m8{t:TypeId}{kk:Ky}{v:Value}(h:oL P t=some kk)(hk:mj kk v=true):P.underlying t=some (gK kk):=by
 have na:∀k,kk≠.a2 k:=λk e=>by subst e;cases v<;>simp[mj,kR,cw]at hk
 unfold oL at h;split at h
 case h_4=>
  split at h
  .split at h
   .cases h;exact absurd rfl (na _)
   .cases h
  .cases h
 all_goals(simp at h<;>subst h<;>assumption)
theorem oX{kk:Ky}{v:Value}(h:mj kk v=true):IsKey (gK kk) v:=by
 cases kk<;>cases v<;>simp_all[mj,kR,cw,IsKey,gK]
theorem pT{kk:Ky}{a b:Value}{t:Bool}(ha:mj kk a=true)(h:gz a b=some t):Instr.sameNow (gK kk) a b=some t/\(t=true->a=b)/\(t=false->a≠b):=by
 cases kk<;>cases a<;>simp[mj,kR,cw]at ha<;>cases b<;>simp only[gz,reduceCtorEq]at h
 .rename_i k x k' y;split at h
  .rename_i hk;have hk:=of_decide_eq_true hk;subst hk;cases h;refine⟨by simp[Instr.sameNow,gK],λh=>by simp at h;rw[h],λh=>by simp at h;simpa using h⟩
  .cases h
 .rename_i x y;cases h;refine⟨by simp[Instr.sameNow,gK],λh=>by rw[(bytes_beq _ _).1 h],λh e=>?_⟩
  cases e;rw[(bytes_beq _ _).2 rfl]at h;cases h
 .rename_i x y;cases h;refine⟨by simp[Instr.sameNow,gK],λh=>by simp at h;rw[h],λh=>by simp at h;simpa using h⟩
theorem My{kt:TypeId}{k:IntKind}(h:oL P kt=some (.a2 k)):∃e,P.underlying kt=some (.array 2 e)/\P.underlying e=some (.int k)/\eL P e=some 1:=by
 unfold oL at h;split at h
 case h_4=>
  rename_i n e he;split at h
  .rename_i k' fZ;split at h
   .rename_i hc;cases h;exact⟨e,by rw[he,hc.1],fZ,hc.2⟩
   .cases h
  .cases h
 all_goals cases h
theorem Fu{k:IntKind}{v:Value}(h:kR (.a2 k) v=true):∃x y,v= .agg #[.int k x,.int k y]:=by
 cases v<;>simp only[kR,abL]at h
 rename_i a;split at h
 .rename_i k1 x k2 y he;simp only[aab,decide_eq_true_eq]at h;obtain⟨rfl,rfl⟩:=h;refine⟨x,y,?_⟩;rw[<-Array.toArray_toList (xs:=a),he]
 .cases h
theorem C3{kt:TypeId}{k:IntKind}{v:Value}(hk:oL P kt=some (.a2 k))(h:kR (.a2 k) v=true)(e:Bool)(n:Nat):(Instr.checkKey e (n+2) kt v).run P w= .ok () w:=by
 obtain⟨el,h1,h2,h3⟩:=My hk;obtain⟨x,y,rfl⟩:=Fu h;have ha:ec P el=some false:=by simp[ec,h2]
 have p1:=m5 (w:=w) (t:=el) (pre:=[]) (us:=[.int k x]) (post:=[.int k y]) h3 (.inr ⟨ha,rfl⟩);have p2:=m5 (w:=w) (t:=el) (pre:=[.int k x]) (us:=[.int k y]) (post:=[]) h3 (.inr ⟨ha,rfl⟩);simp[oR,ha]at p1 p2;have dk:=fq (w:=w) h3;have hc:∀z,(Instr.checkKey e (n+1) el (.int k z)).run P w= .ok () w:=λz=>by simp[Instr.checkKey,run_underlying h2]
 rw[Instr.checkKey];simp only[Sem.run_bind,run_underlying h1,Result.andThen_ok];simp[Std.Legacy.Range.forIn_eq_forIn_range',Std.Legacy.Range.size,List.range',dk,p1,p2,hc]
theorem Mz{kt:TypeId}{k:IntKind}{a b:Value}{t:Bool}(hk:oL P kt=some (.a2 k))(ha:kR (.a2 k) a=true)(h:gz a b=some t):(Op.equal kt a b).run P w= .ok t w/\(t=true->a=b):=by
 obtain⟨el,h1,h2,h3⟩:=My hk;obtain⟨x,y,rfl⟩:=Fu ha;cases b<;>simp only[gz,reduceCtorEq]at h
 rename_i b;obtain⟨l⟩:=b;unfold Wv at h;split at h
 .rename_i k1 x1 k2 y1 k3 x2 k4 y2 e1 e2;simp only[aeb,Value.int.injEq,and_true]at e1;obtain⟨⟨rfl,rfl⟩,rfl,rfl⟩:=e1;subst e2;split at h
  .rename_i hc;simp only[aab,decide_eq_true_eq]at hc;obtain⟨rfl,rfl⟩:=hc;cases h;have WI:=h3;simp only[eL,aaz]at WI;obtain⟨i,hi,Jj⟩:=WI;have hc:P.cellsOf el=1:=by simp[Program.cellsOf,hi,Jj]
   have cP:=nN (w:=w) h2 h3 9998 [.int k x,.int k y] [.int k x2,.int k y2] [] [] (x==x2&&y==y2) rfl (by simp[gI,jp,PQ])
   refine⟨?_,λh=>by simp at h;rw[h.1,h.2]⟩
   show(Op.equalIn (9999+1) kt (.agg _) (.agg _)).run P w=_;rw[run_equalIn_array w 9999 _ _ h1 hi,hc,adI];simpa using cP
  .cases h
 .cases h
theorem C4{kt:TypeId}{k:IntKind}{kv:Value}(pU:oL P kt=some (.a2 k))(hk:kR (.a2 k) kv=true):∀(es:List ME)(bq:List MapEntry)(n:Nat)(o:Option RV),bq.length=es.length->
  (∀(i:Nat)e,es[i]? =some e->∃e',bq[i]? =some e'/\e'.key=e.key/\df ρ w e.val e'.val)->oe kv es=some o->
  match o with
  |none=>(Instr.findAsking kt kv bq n).run P w= .ok none w
  |some r=>∃j v,(Instr.findAsking kt kv bq n).run P w= .ok (some (n+j,v)) w/\df ρ w r v
 | [],[],n,o,_,_,h=>by simp[oe]at h;subst h;simp[Instr.findAsking]
 | [],_::_,_,_,h,_,_=>by simp at h
 |_::_,[],_,_,h,_,_=>by simp at h
 |e::es,e'::bq,n,o,hl,hr,h=>by
  obtain⟨e0,h0,gj,cq⟩:=hr 0 e rfl;simp at h0;subst h0;simp only[oe]at h;cases hq:gz kv e.key with
  |none=>rw[hq]at h;cases h
  |some t=>
   obtain⟨q1,_⟩:=Mz (w:=w) pU hk hq;rw[<-gj]at q1;cases t with
   |true=>
    rw[hq]at h;cases h;exact⟨0,e'.val,by simp[Instr.findAsking,q1],cq⟩
   |false=>
    rw[hq]at h;have ih:=C4 pU hk es bq (n+1) o (by simpa using hl) (λi x hx=>by simpa using hr (i+1) x (by simpa using hx)) h
    cases o with
    |none=>simpa[Instr.findAsking,q1]using ih
    |some r=>
     obtain⟨j,v,h1,h2⟩:=ih;exact⟨j+1,v,by simp[Instr.findAsking,q1,h1];omega,h2⟩
theorem HR{kt:TypeId}{k:IntKind}{kv:Value}(pU:oL P kt=some (.a2 k))(hk:kR (.a2 k) kv=true)(r:RV):∀(es:List ME)(bq:List MapEntry)(n:Nat)(l:List ME),bq.length=es.length->
  (∀(i:Nat)e,es[i]? =some e->∃e',bq[i]? =some e'/\e'.key=e.key/\df ρ w e.val e'.val)->wA kv r es=some l->
  ((Instr.findAsking kt kv bq n).run P w= .ok none w/\l=es++ [⟨kv,r⟩])\/∃j e',(Instr.findAsking kt kv bq n).run P w= .ok (some (n+j,e'.val)) w/\bq[j]? =some e'/\e'.key=kv/\l=es.set j ⟨kv,r⟩
 | [],[],n,o,_,_,h=>by
  simp[wA]at h;subst h;exact .inl ⟨by simp[Instr.findAsking],rfl⟩
 | [],_::_,_,_,h,_,_=>by simp at h
 |_::_,[],_,_,h,_,_=>by simp at h
 |e::es,e'::bq,n,o,hl,hr,h=>by
  obtain⟨e0,h0,gj,cq⟩:=hr 0 e rfl;simp at h0;subst h0;simp only[wA]at h;cases hq:gz kv e.key with
  |none=>rw[hq]at h;cases h
  |some t=>
   obtain⟨q1,q2⟩:=Mz (w:=w) pU hk hq;rw[<-gj]at q1;cases t with
   |true=>
    rw[hq]at h;cases h;exact .inr ⟨0,e',by simp[Instr.findAsking,q1],rfl,by rw[gj,q2 rfl],rfl⟩
   |false=>
    rw[hq]at h;simp only at h;split at h
    .rename_i l' A2;cases h;rcases HR pU hk r es bq (n+1) l' (by simpa using hl) (λi x hx=>by simpa using hr (i+1) x (by simpa using hx)) A2 with⟨h1,rfl⟩|⟨j,e1,h1,h2,h3,rfl⟩
     .exact .inl ⟨by simpa[Instr.findAsking,q1]using h1,rfl⟩
     .exact .inr ⟨j+1,e1,by simp[Instr.findAsking,q1,h1];omega,by simpa using h2,h3,rfl⟩
    .cases h
theorem wY{kt:TypeId}{k:IntKind}(hk:oL P kt=some (.a2 k))(x:Value)(es:List MapEntry):(Instr.findKey kt x es).run P w=(Instr.findAsking kt x es).run P w:=by
 obtain⟨el,h1,_⟩:=My hk;exact run_findKey_eq w (by simp[h1]) x es
theorem MA{k:IntKind}{kv:Value}(hk:kR (.a2 k) kv=true):(Instr.keyThatStays kv kv).run P w= .ok kv w:=by obtain⟨x,y,rfl⟩:=Fu hk;simp[Instr.keyThatStays,Instr.sameBits]
theorem wZ{cs:List CC}{kv v:Value}(h:tE cs=some kv)(hd:ce ρ w (.rv (.agg cs)) v):v=kv:=by
 unfold tE at h;split at h
 .cases h;obtain⟨us,rfl,l,d⟩:=hd;simp at l
  match us,l with
  | [a,b],_=>
   obtain⟨v1,e1,d1⟩:=d 0 _ rfl;obtain⟨v2,e2,d2⟩:=d 1 _ rfl;cases e1;cases e2;obtain⟨rfl,_⟩:=bF (ρ:=ρ) (w:=w) d1;obtain⟨rfl,_⟩:=bF (ρ:=ρ) (w:=w) d2;rfl
 .cases h
theorem C5{kk:Ky}{cs:List CC}{kv:Value}(h:tE cs=some kv)(fC:kR kk kv=true):∃k,kk= .a2 k:=by
 unfold tE at h;split at h
 .cases h;cases kk<;>simp[kR]at fC
  exact⟨_,rfl⟩
 .cases h
theorem u4{kk:Ky}{kv:Value}(hk:mj kk kv=true):∀(es:List ME)(bq:List MapEntry)(n:Nat)(o:Option RV),bq.length=es.length->
  (∀(i:Nat)e,es[i]? =some e->∃e',bq[i]? =some e'/\e'.key=e.key/\df ρ w e.val e'.val)->oe kv es=some o->
  match o with
  |none=>Instr.findNow (gK kk) kv bq n=some none
  |some r=>∃j v,Instr.findNow (gK kk) kv bq n=some (some (n+j,v))/\df ρ w r v
 | [],[],n,o,_,_,h=>by simp[oe]at h;subst h;rfl
 | [],_::_,_,_,h,_,_=>by simp at h
 |_::_,[],_,_,h,_,_=>by simp at h
 |e::es,e'::bq,n,o,hl,hr,h=>by
  obtain⟨e0,h0,gj,cq⟩:=hr 0 e rfl;simp at h0;subst h0;simp only[oe]at h;cases hq:gz kv e.key with
  |none=>rw[hq]at h;cases h
  |some t=>
   obtain⟨q1,q2,q3⟩:=pT hk hq;rw[<-gj]at q1;cases t with
   |true=>
    rw[hq]at h;cases h;exact⟨0,e'.val,by simp[Instr.findNow,q1],cq⟩
   |false=>
    rw[hq]at h;have ih:=u4 hk es bq (n+1) o (by simpa using hl) (λi x hx=>by simpa using hr (i+1) x (by simpa using hx)) h
    cases o with
    |none=>simpa[Instr.findNow,q1]using ih
    |some r=>
     obtain⟨j,v,h1,h2⟩:=ih;exact⟨j+1,v,by simp[Instr.findNow,q1,h1];omega,h2⟩
theorem w8{kk:Ky}{kv:Value}(hk:mj kk kv=true)(r:RV):∀(es:List ME)(bq:List MapEntry)(n:Nat)(l:List ME),bq.length=es.length->
  (∀(i:Nat)e,es[i]? =some e->∃e',bq[i]? =some e'/\e'.key=e.key/\df ρ w e.val e'.val)->wA kv r es=some l->
  (Instr.findNow (gK kk) kv bq n=some none/\l=es++ [⟨kv,r⟩])\/∃j e',Instr.findNow (gK kk) kv bq n=some (some (n+j,e'.val))/\bq[j]? =some e'/\e'.key=kv/\l=es.set j ⟨kv,r⟩
 | [],[],n,o,_,_,h=>by simp[wA]at h;subst h;exact .inl ⟨rfl,rfl⟩
 | [],_::_,_,_,h,_,_=>by simp at h
 |_::_,[],_,_,h,_,_=>by simp at h
 |e::es,e'::bq,n,o,hl,hr,h=>by
  obtain⟨e0,h0,gj,cq⟩:=hr 0 e rfl;simp at h0;subst h0;simp only[wA]at h;cases hq:gz kv e.key with
  |none=>rw[hq]at h;cases h
  |some t=>
   obtain⟨q1,q2,q3⟩:=pT hk hq;rw[<-gj]at q1;cases t with
   |true=>
    rw[hq]at h;cases h;exact .inr ⟨0,e',by simp[Instr.findNow,q1],rfl,by rw[gj,q2 rfl],rfl⟩
   |false=>
    rw[hq]at h;simp only at h;split at h
    .rename_i l' A2;cases h;rcases w8 hk r es bq (n+1) l' (by simpa using hl) (λi x hx=>by simpa using hr (i+1) x (by simpa using hx)) A2 with⟨h1,rfl⟩|⟨j,e1,h1,h2,h3,rfl⟩
     .exact .inl ⟨by simpa[Instr.findNow,q1]using h1,rfl⟩
     .exact .inr ⟨j+1,e1,by simp[Instr.findNow,q1,h1];omega,by simpa using h2,h3,rfl⟩
    .cases h
theorem u5(hM:ay ρ m w){t:TypeId}{r:Option Value}(hr:r=none\/∃k n kt et,r=some (.int k n)/\P.underlying t=some (.map kt et))(h:step P .rN aX m K):dd P (do pure (Next.value (<-Instr.makeMap t r))) ρ m w K:=by
 simp only[step,gP,cg]at h;let l:wu:=⟨w.heap.size,0,0,0⟩;have hn:=hM.n;have bO:(ρ.push l).aI (.aj m.length)=l:=by rw[<-hn];exact ρ.gi l
 obtain⟨h1,h2⟩:=hM.push (bk:= .mp []) (l:=l) (eN.alloc w (.map #[] 0)) (Ym _) (by simp[l]) (by refine⟨#[],0,⟨?_,aE,aE⟩,rfl,aE⟩;rw[bO];exact(heap_alloc w _).1) trivial
 refine⟨.value (.map (some w.heap.size)),.map (some w.heap.size),w.alloc (.map #[] 0),_,_,_,?_,.inl rfl,h,h1,⟨by simp[bI.push,hn],by rw[bO]⟩,h2⟩
 rcases hr with rfl|⟨k,n,kt,et,rfl,ht⟩
 .simp[Instr.makeMap]
 .simp[Instr.makeMap,run_underlying ht,asInt,asIntOf]
theorem tO{t:TypeId}{z:RV}(h:CN P t=some z):∃v,(zeroValue t).run P w= .ok v w/\df ρ w z v:=by
 simp only[CN,U6,N7]at h;obtain⟨i,hi,zv,Qi,h⟩:=h;refine⟨zv,by simp[zeroValue,typeInfo,hi,Qi],?_⟩
 split at h
 .rename_i cs;simp only[N7]at h;obtain⟨zz,hz,h⟩:=h;cases h;obtain⟨h1,h2⟩:=ft (ρ:=ρ) (w:=w) hz;exact⟨cs.toList,aE,h1,h2⟩
 .simp only[N7]at h;obtain⟨c,hc,h⟩:=h;cases h;exact qX hc
theorem u6(hM:ay ρ m w){c:CV}{v:Value}{es:List ME}(h:HA m c=some es)(hd:ce ρ w c v):
  (v= .map none/\es=[])\/∃b bq clock,v= .map (some b)/\w.heap[b]? =some (.map bq clock)/\AN ρ w es bq:=by
 unfold HA at h;split at h
 .rename_i id;split at h
  .rename_i es0 hb;cases h;rw[aT]at hb;obtain⟨aC,rfl⟩:=hd;obtain⟨bq,clock,h1,h2⟩:=hM.bk id _ hb;exact .inr ⟨_,bq,clock,rfl,h1.1,h2⟩
  .cases h
 .cases h;obtain⟨rfl,_⟩:=bF hd;exact .inl ⟨rfl,rfl⟩
 .cases h
theorem nP{kk:Ky}{kv:Value}(hk:mj kk kv=true):∀(es:List MO)(bq:List MapEntry)(n:Nat)(o:Option (Nat×MV)),bq.length=es.length->
  (∀(i:Nat)e,es[i]? =some e->∃e',bq[i]? =some e'/\e'.key=e.key)->iV kv es n=some o->
  match o with
  |none=>Instr.findNow (gK kk) kv bq n=some none
  |some (j,mv)=>∃i e',j=n+i/\es[i]? =some ⟨kv,mv⟩/\bq[i]? =some e'/\Instr.findNow (gK kk) kv bq n=some (some (n+i,e'.val))
 | [],[],n,o,_,_,h=>by simp[iV]at h;subst h;rfl
 | [],_::_,_,_,h,_,_=>by simp at h
 |_::_,[],_,_,h,_,_=>by simp at h
 |e::es,e'::bq,n,o,hl,hr,h=>by
  obtain⟨e0,h0,gj⟩:=hr 0 e rfl;simp at h0;subst h0;simp only[iV]at h;cases hq:gz kv e.key with
  |none=>rw[hq]at h;cases h
  |some t=>
   obtain⟨q1,q2,q3⟩:=pT hk hq;rw[<-gj]at q1;cases t with
   |true=>
    rw[hq]at h;cases h;have:=q2 rfl;obtain⟨k0,v0⟩:=e;exact⟨0,e',rfl,by simp at this|-;exact this.symm,rfl,by simp[Instr.findNow,q1]⟩
   |false=>
    rw[hq]at h;have ih:=nP hk es bq (n+1) o (by simpa using hl) (λi x hx=>by simpa using hr (i+1) x (by simpa using hx)) h
    cases o with
    |none=>simpa[Instr.findNow,q1]using ih
    |some r=>
     obtain⟨j,mv⟩:=r;obtain⟨i,e1,h1,h2,h3,h4⟩:=ih;exact⟨i+1,e1,om,h2,h3,by simp[Instr.findNow,q1,h4];omega⟩
theorem u7{kk:Ky}{kv:Value}(hk:mj kk kv=true)(r:MV):∀(es:List MO)(bq:List MapEntry)(n:Nat)(l:List MO),bq.length=es.length->
  (∀(i:Nat)e,es[i]? =some e->∃e',bq[i]? =some e'/\e'.key=e.key)->mU kv r es=some l->
  (Instr.findNow (gK kk) kv bq n=some none/\l=es++ [⟨kv,r⟩])\/∃j e',Instr.findNow (gK kk) kv bq n=some (some (n+j,e'.val))/\bq[j]? =some e'/\e'.key=kv/\l=es.set j ⟨kv,r⟩
 | [],[],n,o,_,_,h=>by simp[mU]at h;subst h;exact .inl ⟨rfl,rfl⟩
 | [],_::_,_,_,h,_,_=>by simp at h
 |_::_,[],_,_,h,_,_=>by simp at h
 |e::es,e'::bq,n,o,hl,hr,h=>by
  obtain⟨e0,h0,gj⟩:=hr 0 e rfl;simp at h0;subst h0;simp only[mU]at h;cases hq:gz kv e.key with
  |none=>rw[hq]at h;cases h
  |some t=>
   obtain⟨q1,q2,q3⟩:=pT hk hq;rw[<-gj]at q1;cases t with
   |true=>
    rw[hq]at h;cases h;exact .inr ⟨0,e',by simp[Instr.findNow,q1],rfl,by rw[gj,q2 rfl],rfl⟩
   |false=>
    rw[hq]at h;simp only at h;split at h
    .rename_i l' A2;cases h;rcases u7 hk r es bq (n+1) l' (by simpa using hl) (λi x hx=>by simpa using hr (i+1) x (by simpa using hx)) A2 with⟨h1,rfl⟩|⟨j,e1,h1,h2,h3,rfl⟩
     .exact .inl ⟨by simpa[Instr.findNow,q1]using h1,rfl⟩
     .exact .inr ⟨j+1,e1,by simp[Instr.findNow,q1,h1];omega,by simpa using h2,h3,rfl⟩
    .cases h
theorem A3{id esz:Nat}{es:List MO}{bq:Array MapEntry}(h:bq.size=es.length/\∀(i:Nat)e,es[i]? =some e->∃e',bq[i]? =some e'/\e'.key=e.key/\cw e.key=true/\bj ρ w (some (id,i,0)) (e.cc esz) e'.val):
  bq.toList.length=es.length/\∀(i:Nat)e,es[i]? =some e->∃e',bq.toList[i]? =some e'/\e'.key=e.key:=
 ⟨by simpa using h.1,λi e he=>let⟨e',h1,h2,_⟩:=h.2 i e he;⟨e',by simpa using h1,h2⟩⟩
theorem Qp(hM:ay ρ m w){t kt vt:TypeId}{z:RV}{kk:Ky}{kv:Value}{b:Bool}(ht:P.underlying t=some (.map kt vt))(hz:CN P vt=some z)(hk:oL P kt=some kk)(fC:mj kk kv=true){id esz:Nat}{es:List MO}{so:Option (List Nat×Nat)}(db:m[id]? =some (.mo esz es so))(h:ok (iV kv es 0) λo=>match o with
    |none=>K (uR b z none) m
    |some (_,.row n)=>K (uR b z (some (.one (.row n esz 0 none)))) m
    |some (i,.ei l)=>nJ m λn=>K (uR b z (some (.one (.row n esz 0 none)))) (gJ (aV m id (.mo esz (aV es i ⟨kv,.row n⟩) so)) [.row esz (l.map λds=>ds.map .ah)])):
  dd P (do pure (Next.value (<-Instr.lookup t (.map (some (ρ.aI (.aj id)).b)) kv b))) ρ m w K:=by
 obtain⟨o,ho,hK⟩:=aU.1 h;have pU:=m8 hk fC;have gj:=oX fC;obtain⟨zv,Lz,Jv⟩:=tO (ρ:=ρ) (w:=w) hz;obtain⟨bq,clock,⟨hb,qy⟩,eG,lV⟩:=hM.bk id _ db;have LG:=A3 eG;have hf:=nP fC es bq.toList 0 o LG.1 LG.2 ho;have run:∀(o':Option (Nat×Value)),Instr.findNow (gK kk) kv bq.toList 0=some o'->
    (Instr.lookup t (.map (some (ρ.aI (.aj id)).b)) kv b).run P w=((match o' with|some (_,v)=>(Pure.pure (v,true):Sem (Value×Bool))|none=>(do pure (<-zeroValue vt,false))).run P w).andThen λp w'=>.ok (if b then .tuple #[p.1,.bool p.2]else p.1) w':=by
  intro o' fa;cases o' with
  |none=>cases b<;>simp[Instr.lookup,run_underlying ht,Go.MapKept.run_getObj_map hb,run_checkKey pU gj,run_findKey pU fa,Result.andThen,Lz]
  |some p=>cases b<;>simp[Instr.lookup,run_underlying ht,Go.MapKept.run_getObj_map hb,run_checkKey pU gj,run_findKey pU fa,Result.andThen]
 have jS:∀(ρ1:bI)(v:Value)(r:RV)(t:Bool),df ρ1 w r v->ce ρ1 w (.bD [r,.one (.ah (.val (.bool t)))]) (.tuple #[v,.bool t]):=λρ1 v r t hv=>
  ⟨[v,.bool t],rfl,rfl,λi r' hi=>by
   match i,hi with
   |0,hi=>cases hi;exact⟨v,rfl,hv⟩
   |1,hi=>cases hi;exact⟨_,rfl,.val _ rfl⟩⟩
 cases o with
 |none=>
  have h1:=run none hf;simp only[Sem.run_bind,Lz,Result.andThen_ok,Sem.run_pure]at h1;cases b with
  |false=>exact dd.pure hM (v:=zv) (by rw[Sem.run_bind,h1];rfl) hK Jv
  |true=>exact dd.pure hM (v:= .tuple #[zv,.bool false]) (by rw[Sem.run_bind,h1];rfl) hK (jS _ zv z false Jv)
 |some r=>
  obtain⟨j,mv⟩:=r;obtain⟨i,e',hj,hi,mT,hf⟩:=hf;have hj:j=i:=om;subst hj;have h1:=run _ hf;simp only[Sem.run_pure,Result.andThen_ok]at h1;obtain⟨e1,g1,g2,g3,g4⟩:=eG.2 j _ hi;have:e1=e':=by rw[abq]at mT;rw[mT]at g1;cases g1;rfl
  subst this;cases mv with
  |row n=>
   have hv:df ρ w (.one (.row n esz 0 none)) e1.val:=g4;cases b with
   |false=>exact dd.pure hM (v:=e1.val) (by rw[Sem.run_bind,h1];rfl) hK hv
   |true=>exact dd.pure hM (v:= .tuple #[e1.val,.bool true]) (by rw[Sem.run_bind,h1];rfl) hK (jS _ _ _ true hv)
  |ei l=>
   simp only[gP,cg,aY]at hK;obtain⟨U',jo,hX,hd⟩:=hM.aax db hi;have hv:df U' w (.one (.row m.length esz 0 none)) e1.val:=hd _ g4;cases b with
   |false=>exact⟨_,e1.val,w,_,_,U',by rw[Sem.run_bind,h1];rfl,.inl rfl,hK,jo,hv,hX⟩
   |true=>exact⟨_,.tuple #[e1.val,.bool true],w,_,_,U',by rw[Sem.run_bind,h1];rfl,.inl rfl,hK,jo,jS _ _ _ true hv,hX⟩
theorem Jy{c:CV}{v:Value}{id esz:Nat}{es:List MO}{so:Option (List Nat×Nat)}(h:TR m c=some (id,esz,es,so))(hd:ce ρ w c v):m[id]? =some (.mo esz es so)/\v= .map (some (ρ.aI (.aj id)).b):=by
 unfold TR at h;split at h
 .split at h
  .rename_i hb;cases h;rw[aT]at hb;exact⟨hb,hd.2⟩
  .cases h
 .cases h
theorem Fv(hM:ay ρ m w)(hE:bl ρ w aX a.tmps){t kt vt:TypeId}{z:RV}{kk:Ky}{x k:Operand}{x' k':X}{b:Bool}(ht:P.underlying t=some (.map kt vt))(hz:CN P vt=some z)(hk:oL P kt=some kk)(hx:bn x=some x')(MB:bn k=some k')(h:step P (.yQ z kk x' k' b) aX m K):dd P (do pure (Next.value (<-Instr.lookup t (a.eval x) (a.eval k) b))) ρ m w K:=by
 have rY:=aR hE hx;have y4:=aR hE MB;simp only[step]at h;generalize a.eval x=xv at rY|-;generalize a.eval k=kv at y4|-;generalize k'.ev aX=kc at y4 h;split at h
 .rename_i Jz;rcases cn.1 h with⟨fC,h⟩|⟨_,h⟩
  case inr=>exact h.elim
  obtain⟨rfl,EQ⟩:=bF y4 (λe=>by subst e;cases kk<;>simp[kR]at fC)
  replace fC:=wX fC EQ;split at h
  .rename_i id esz es so hmo;obtain⟨hb,rfl⟩:=Jy hmo rY;exact Qp hM ht hz hk fC hb h
  obtain⟨es,oh,h⟩:=aU.1 h;obtain⟨o,ho,hK⟩:=aU.1 h;have pU:=m8 hk fC;have gj:=oX fC;obtain⟨zv,Lz,Jv⟩:=tO (ρ:=ρ) (w:=w) hz;have jS:∀(v:Value)(r:RV)(t:Bool),df ρ w r v->(b=true->ce ρ w (.bD [r,.one (.ah (.val (.bool t)))]) (.tuple #[v,.bool t])):=λv r t hv _=>
   ⟨[v,.bool t],rfl,rfl,λi r' hi=>by
    match i,hi with
    |0,hi=>cases hi;exact⟨v,rfl,hv⟩
    |1,hi=>cases hi;exact⟨_,rfl,.val _ rfl⟩⟩
  have go:∀(r:Option Nat)(bq:List MapEntry)(em:Bool),(∀(o':Option (Nat×Value)),Instr.findNow (gK kk) kv bq 0=some o'->
    (Instr.lookup t (.map r) kv b).run P w=((match o' with|some (_,v)=>(Pure.pure (v,true):Sem (Value×Bool))|none=>(do pure (<-zeroValue vt,false))).run P w).andThen λp w'=>.ok (if b then .tuple #[p.1,.bool p.2]else p.1) w')->
    (bq.length=es.length/\∀(i:Nat)e,es[i]? =some e->∃e',bq[i]? =some e'/\e'.key=e.key/\df ρ w e.val e'.val)->dd P (do pure (Next.value (<-Instr.lookup t (.map r) kv b))) ρ m w K:=by
   intro r bq em cP eG;have hf:=u4 (ρ:=ρ) (w:=w) fC es bq 0 o eG.1 eG.2 ho;cases o with
   |none=>
    have h1:=cP none hf;simp only[Sem.run_bind,Lz,Result.andThen_ok,Sem.run_pure]at h1;cases b with
    |false=>exact dd.pure hM (v:=zv) (by rw[Sem.run_bind,h1];rfl) hK Jv
    |true=>exact dd.pure hM (v:= .tuple #[zv,.bool false]) (by rw[Sem.run_bind,h1];rfl) hK (jS zv z false Jv rfl)
   |some r=>
    obtain⟨j,v,hf,hv⟩:=hf;have h1:=cP _ hf;simp only[Sem.run_pure,Result.andThen_ok]at h1;cases b with
    |false=>exact dd.pure hM (v:=v) (by rw[Sem.run_bind,h1];rfl) hK hv
    |true=>exact dd.pure hM (v:= .tuple #[v,.bool true]) (by rw[Sem.run_bind,h1];rfl) hK (jS v r true hv rfl)
  rcases u6 hM oh rY with⟨rfl,rfl⟩|⟨r,bq,clock,rfl,hb,hl,hr⟩
  .refine go none [] true (λo' fa=>?_) ⟨rfl,aE⟩
   cases o' with
   |none=>cases b<;>simp[Instr.lookup,run_underlying ht,run_checkKey pU gj,run_findKey pU fa,Result.andThen,Lz]
   |some p=>cases b<;>simp[Instr.lookup,run_underlying ht,run_checkKey pU gj,run_findKey pU fa,Result.andThen]
  .refine go (some r) bq.toList bq.isEmpty (λo' fa=>?_) ⟨by simpa using hl,λi e he=>by
     obtain⟨e',h1,h2⟩:=hr i e he;exact⟨e',by simpa using h1,h2⟩⟩
   cases o' with
   |none=>cases b<;>simp[Instr.lookup,run_underlying ht,Go.MapKept.run_getObj_map hb,run_checkKey pU gj,run_findKey pU fa,Result.andThen,Lz]
   |some p=>cases b<;>simp[Instr.lookup,run_underlying ht,Go.MapKept.run_getObj_map hb,run_checkKey pU gj,run_findKey pU fa,Result.andThen]
 .rename_i cs;obtain⟨Jz,W6,hA⟩:=aU.1 h;obtain⟨fC,hB⟩:kR kk Jz=true/\_:=(cn.1 hA).elim (λh=>h) λh=>h.2.elim
  clear h hA;have:=wZ W6 y4;subst this;obtain⟨kd,rfl⟩:=C5 W6 fC;obtain⟨es,oh,h⟩:=aU.1 hB;obtain⟨o,ho,hK⟩:=aU.1 h;have Qq:∀e,(Instr.checkKey e 10000 kt kv).run P w= .ok () w:=λe=>C3 hk fC e 9998
  have JA:=wY (w:=w) hk kv;obtain⟨zv,Lz,Jv⟩:=tO (ρ:=ρ) (w:=w) hz;have jS:∀(v:Value)(r:RV)(t:Bool),df ρ w r v->(b=true->ce ρ w (.bD [r,.one (.ah (.val (.bool t)))]) (.tuple #[v,.bool t])):=λv r t hv _=>
   ⟨[v,.bool t],rfl,rfl,λi r' hi=>by
    match i,hi with
    |0,hi=>cases hi;exact⟨v,rfl,hv⟩
    |1,hi=>cases hi;exact⟨_,rfl,.val _ rfl⟩⟩
  have go:∀(r:Option Nat)(bq:List MapEntry)(em:Bool),(∀(o':Option (Nat×Value)),(Instr.findAsking kt kv bq 0).run P w= .ok o' w->
    (Instr.lookup t (.map r) kv b).run P w=((match o' with|some (_,v)=>(Pure.pure (v,true):Sem (Value×Bool))|none=>(do pure (<-zeroValue vt,false))).run P w).andThen λp w'=>.ok (if b then .tuple #[p.1,.bool p.2]else p.1) w')->
    (bq.length=es.length/\∀(i:Nat)e,es[i]? =some e->∃e',bq[i]? =some e'/\e'.key=e.key/\df ρ w e.val e'.val)->dd P (do pure (Next.value (<-Instr.lookup t (.map r) kv b))) ρ m w K:=by
   intro r bq em cP eG;have hf:=C4 (ρ:=ρ) (w:=w) hk fC es bq 0 o eG.1 eG.2 ho;cases o with
   |none=>
    have h1:=cP none hf;simp only[Sem.run_bind,Lz,Result.andThen_ok,Sem.run_pure]at h1;cases b with
    |false=>exact dd.pure hM (v:=zv) (by rw[Sem.run_bind,h1];rfl) hK Jv
    |true=>exact dd.pure hM (v:= .tuple #[zv,.bool false]) (by rw[Sem.run_bind,h1];rfl) hK (jS zv z false Jv rfl)
   |some r=>
    obtain⟨j,v,hf,hv⟩:=hf;have h1:=cP _ hf;simp only[Sem.run_pure,Result.andThen_ok]at h1;cases b with
    |false=>exact dd.pure hM (v:=v) (by rw[Sem.run_bind,h1];rfl) hK hv
    |true=>exact dd.pure hM (v:= .tuple #[v,.bool true]) (by rw[Sem.run_bind,h1];rfl) hK (jS v r true hv rfl)
  rcases u6 hM oh rY with⟨rfl,rfl⟩|⟨r,bq,clock,rfl,hb,hl,hr⟩
  .refine go none [] true (λo' fa=>?_) ⟨rfl,aE⟩
   cases o' with
   |none=>cases b<;>simp[Instr.lookup,run_underlying ht,Qq,JA,fa,Result.andThen,Lz]
   |some p=>cases b<;>simp[Instr.lookup,run_underlying ht,Qq,JA,fa,Result.andThen]
  .refine go (some r) bq.toList bq.isEmpty (λo' fa=>?_) ⟨by simpa using hl,λi e he=>by
     obtain⟨e',h1,h2⟩:=hr i e he;exact⟨e',by simpa using h1,h2⟩⟩
   cases o' with
   |none=>cases b<;>simp[Instr.lookup,run_underlying ht,Go.MapKept.run_getObj_map hb,Qq,JA,fa,Result.andThen,Lz]
   |some p=>cases b<;>simp[Instr.lookup,run_underlying ht,Go.MapKept.run_getObj_map hb,Qq,JA,fa,Result.andThen]
 .exact h.elim
theorem C6{c:CV}{v:Value}{r:RV}(h:CL c=some r)(hd:ce ρ w c v):df ρ w r v:=by
 unfold CL at h;split at h
 .cases h;exact hd
 .cases h
theorem ib.push{es:Array MapEntry}{clock:Nat}(h:ib es clock){k v:Value}:ib (es.push {key:=k,val:=v,born:=clock}) (clock+1):=by
 refine⟨λe he=>?_,?_⟩
 .simp only[Array.toList_push,abu,abY]at he;rcases he with he|rfl
  .exact Nat.lt_succ_of_lt (h.1 e he)
  .exact ab5 _
 .rw[Array.toList_push,abm,List.nodup_append];refine⟨h.2,aE,λa ha b hb=>?_⟩
  obtain⟨e,he,rfl⟩:=aal.1 ha;simp at hb;subst hb;exact Nat.ne_of_lt (h.1 e he)
theorem ib.mod{es:Array MapEntry}{clock:Nat}(h:ib es clock){j:Nat}{k v:Value}:ib (es.modify j λe=>{e with key:=k,val:=v}) clock:=by
 have e1:(es.modify j λe=>{e with key:=k,val:=v}).toList.map (·.born)=es.toList.map (·.born):=by
  apply abr;intro i;rw[Tm,Tm,abq,abq,aba];split
  .cases es[i]? <;>rfl
  .rfl
 refine⟨λe he=>?_,by rw[e1];exact h.2⟩
 have:e.born∈es.toList.map (·.born):=by rw[<-e1];exact aal.2 ⟨e,he,rfl⟩
 obtain⟨x,hx,hb⟩:=aal.1 this;rw[<-hb];exact h.1 x hx
theorem Qr(hM:ay ρ m w){t kt vt:TypeId}{kk:Ky}{kv:Value}(ht:P.underlying t=some (.map kt vt))(hk:oL P kt=some kk)(fC:mj kk kv=true)(EQ:cw kv=true){id esz:Nat}{es:List MO}(db:m[id]? =some (.mo esz es none)){n lo:Nat}{hi:Option Nat}{vv:Value}(hd:bj ρ w none (.row n esz lo hi) vv){ds:List (List Dt)}(SG:m[n]? =some (.row esz (ds.map λd=>d.map .ah))){l:List MO}(hl:mU kv (.ei (b9 ds lo hi)) es=some l)(hK:K .undef ((m.set n .aS).set id (.mo esz l none))):
  dd P (do Instr.mapUpdate t (.map (some (ρ.aI (.aj id)).b)) kv vv;pure Next.skip) ρ m w K:=by
 have pU:=m8 hk fC;have gj:=oX fC;obtain⟨bq,clock,⟨hb,qy⟩,eG,lV⟩:=hM.bk id _ db;have LG:=A3 eG;have dk:=eG.1;have m9:∀o,eV w {w with heap:=w.heap.setIfInBounds (ρ.aI (.aj id)).b o} (ρ.aI (.aj id)).b:=λo=>
  ⟨λb dh=>(heap_set (o':=o) hb).2 b dh,aE,rfl,rfl,rfl⟩
 have gQ:∀(oI:Array MapEntry)(gy j:Nat),ib oI gy->(Instr.mapUpdate t (.map (some (ρ.aI (.aj id)).b)) kv vv).run P w= .ok () {w with heap:=w.heap.setIfInBounds (ρ.aI (.aj id)).b (.map oI gy)}->
   l[j]? =some ⟨kv,.ei (b9 ds lo hi)⟩->(∀x,x≠j->l[x]? =es[x]?)->oI.size=l.length->(∀x,x≠j->oI[x]? =bq[x]?)->(∃e,oI[j]? =some e/\e.key=kv/\e.val=vv)->
   dd P (do Instr.mapUpdate t (.map (some (ρ.aI (.aj id)).b)) kv vv;pure Next.skip) ρ m w K:=by
  intro oI gy j MC cP h1 h2 h3 h4 h5;obtain⟨U',jo,hX⟩:=hM.rest db SG h1 EQ h2 hd hb (m9 (.map oI gy)) (heap_set hb).1 MC h3 h4 h5;refine⟨.skip,Go.undef,_,.undef,_,U',?_,.inr ⟨rfl,rfl⟩,hK,jo,rfl,hX⟩;rw[Sem.run_bind,cP];rfl
 rcases u7 fC (.ei (b9 ds lo hi)) es bq.toList 0 l LG.1 LG.2 hl with⟨hf,rfl⟩|⟨j,e',hf,hj,ET,rfl⟩
 .refine gQ (bq.push {key:=kv,val:=vv,born:=clock}) (clock+1) es.length (ib.push qy) ?_ aE (λx hx=>?_) (by simp[dk]) (λx hx=>?_) ⟨{key:=kv,val:=vv,born:=clock},by rw[acP,if_pos dk.symm],rfl,rfl⟩
  .simp[Instr.mapUpdate,run_underlying ht,Go.MapKept.run_getObj_map hb,run_checkKey pU gj,run_findKey pU hf,run_setObj_map _ hb,Result.andThen]
  .rw[List.getElem?_append];split
   .rfl
   .rename_i h;rw[aaE (by simp;omega),aaE om]
  .rw[acP,if_neg om]
 .have oz:bq[j]? =some e':=by simpa using hj
  have ez:=(aaC.1 oz).1;refine gQ (bq.modify j λe=>{e with key:=kv,val:=vv}) clock j (ib.mod qy) ?_ (TH om) (λx hx=>U7 (Ne.symm hx)) (by simp[dk]) (λx hx=>by rw[aba,if_neg (Ne.symm hx)]) ⟨{e' with key:=kv,val:=vv},by rw[aba,if_pos rfl,oz];rfl,rfl,rfl⟩
  .rw[aaP]at hf;simp[Instr.mapUpdate,run_underlying ht,Go.MapKept.run_getObj_map hb,run_checkKey pU gj,run_findKey pU hf,run_setObj_map _ hb,Result.andThen,oz,ET,run_keyThatStays gj]
theorem w9(hM:ay ρ m w)(hE:bl ρ w aX a.tmps){t kt vt:TypeId}{kk:Ky}{x k v:Operand}{x' k' v':X}(ht:P.underlying t=some (.map kt vt))(hk:oL P kt=some kk)(hx:bn x=some x')(MB:bn k=some k')(hvx:bn v=some v')(h:step P (.tz kk x' k' v') aX m K):dd P (do Instr.mapUpdate t (a.eval x) (a.eval k) (a.eval v);pure Next.skip) ρ m w K:=by
 have rY:=aR hE hx;have y4:=aR hE MB;have p7:=aR hE hvx;simp only[step]at h;generalize a.eval x=xv at rY|-;generalize a.eval k=kv at y4|-;generalize a.eval v=vv at p7|-;generalize x'.ev aX=xc at rY h;split at h
 .rename_i id;generalize k'.ev aX=kc at y4 h;split at h
  .rename_i Jz;rcases cn.1 h with⟨fC,h⟩|⟨_,h⟩
   case inr=>exact h.elim
   obtain⟨rfl,EQ⟩:=bF y4 (λe=>by subst e;cases kk<;>simp[kR]at fC)
   replace fC:=wX fC EQ;obtain⟨bk,db,h⟩:=aU.1 h;rw[aT]at db;split at h
   case h_3=>exact h.elim
   case h_2=>
    rename_i esz es;obtain⟨aC,rfl⟩:=rY;generalize v'.ev aX=vc at p7 h;split at h
    .rename_i n e1 lo hi;obtain⟨b2,fI,h⟩:=aU.1 h;rw[aT]at fI;split at h
     .rename_i e2 rows;rcases cn.1 h with⟨oh,h⟩|⟨_,h⟩
      case inr=>exact h.elim
      obtain⟨ds,l,rfl,hl,hK⟩:=h;rw[aab]at oh;have h1:=aai oh.1;have h2:=aai oh.2;subst h1 h2;rw[aY,aY]at hK;exact Qr hM ht hk fC EQ db p7 fI hl hK
     .exact h.elim
    .exact h.elim
   rename_i es;obtain⟨r,hr,h⟩:=aU.1 h;obtain⟨l,hl,hK⟩:=aU.1 h;rw[aY]at hK;have pU:=m8 hk fC;have gj:=oX fC;have Qs:=C6 hr p7;obtain⟨aC,rfl⟩:=rY;obtain⟨bq,clock,⟨hb,qy⟩,dk,eG⟩:=hM.bk id _ db;have m9:∀o,eV w {w with heap:=w.heap.setIfInBounds (ρ.aI (.aj id)).b o} (ρ.aI (.aj id)).b:=λo=>
    ⟨λb dh=>(heap_set (o':=o) hb).2 b dh,aE,rfl,rfl,rfl⟩
   have bY:Live ρ m (.aj id):=⟨_,db,aE,by rintro⟨_,_,e⟩;cases e⟩
   have gQ:∀(oI:Array MapEntry)(gy:Nat),ib oI gy->(Instr.mapUpdate t (.map (some (ρ.aI (.aj id)).b)) kv vv).run P w= .ok () {w with heap:=w.heap.setIfInBounds (ρ.aI (.aj id)).b (.map oI gy)}->
     (iL ρ w ρ {w with heap:=w.heap.setIfInBounds (ρ.aI (.aj id)).b (.map oI gy)}->AN ρ {w with heap:=w.heap.setIfInBounds (ρ.aI (.aj id)).b (.map oI gy)} l oI)->dd P (do Instr.mapUpdate t (.map (some (ρ.aI (.aj id)).b)) kv vv;pure Next.skip) ρ m w K:=by
    intro oI gy MC cP hmr;obtain⟨jo,hX⟩:=hM.Ly (zw:= .mp l) db bY (m9 _) (λg=>⟨oI,gy,⟨(heap_set hb).1,MC⟩,hmr g⟩) (by
     rintro i' j' esz e ⟨b2,fI,ia⟩;rw[TH (by rw[<-hM.n];exact aC)]at fI
     cases fI;cases ia)
    refine⟨.skip,Go.undef,_,.undef,_,ρ,?_,.inr ⟨rfl,rfl⟩,hK,jo,rfl,hX⟩;rw[Sem.run_bind,cP];rfl
   rcases w8 (ρ:=ρ) (w:=w) fC r es bq.toList 0 l (by simpa using dk) (λi e he=>by
     obtain⟨e',h1,h2⟩:=eG i e he;exact⟨e',by simpa using h1,h2⟩) hl with⟨hf,rfl⟩|⟨j,e',hf,hj,ET,rfl⟩
   .refine gQ (bq.push {key:=kv,val:=vv,born:=clock}) (clock+1) (ib.push qy) ?_ λg=>⟨by simp[dk],λi e he=>?_⟩
    .simp[Instr.mapUpdate,run_underlying ht,Go.MapKept.run_getObj_map hb,run_checkKey pU gj,run_findKey pU hf,run_setObj_map _ hb,Result.andThen]
    .rcases aaf i es.length with h1|h1
     .rw[aac h1]at he;obtain⟨e',h2,h3,h4⟩:=eG i e he;exact⟨e',by rw[acP,if_neg om];exact h2,h3,h4.cm g⟩
     .have hi:=(Km.1 he).1;simp at hi;have me:i=es.length:=om;subst me;simp at he;subst he;exact⟨_,by rw[acP,if_pos dk.symm],rfl,Qs.cm g⟩
   .have oz:bq[j]? =some e':=by simpa using hj
    have ez:=(aaC.1 oz).1;refine gQ (bq.modify j λe=>{e with key:=kv,val:=vv}) clock (ib.mod qy) ?_ λg=>⟨by simp[dk],λi e he=>?_⟩
    .rw[aaP]at hf;simp[Instr.mapUpdate,run_underlying ht,Go.MapKept.run_getObj_map hb,run_checkKey pU gj,run_findKey pU hf,run_setObj_map _ hb,Result.andThen,oz,ET,run_keyThatStays gj]
    .rw[aaW]at he;by_cases p9:j=i
     .subst p9;rw[if_pos rfl,if_pos om]at he;cases he;exact⟨{e' with key:=kv,val:=vv},by rw[aba,if_pos rfl,oz];rfl,rfl,Qs.cm g⟩
     .rw[if_neg p9]at he;obtain⟨e2,h2,h3,h4⟩:=eG i e he;exact⟨e2,by rw[aba,if_neg p9];exact h2,h3,h4.cm g⟩
  .rename_i cs;obtain⟨Jz,W6,hA⟩:=aU.1 h;obtain⟨fC,hB⟩:kR kk Jz=true/\_:=(cn.1 hA).elim (λh=>h) λh=>h.2.elim
   clear h hA;have:=wZ W6 y4;subst this;obtain⟨kd,rfl⟩:=C5 W6 fC;have Qq:∀e,(Instr.checkKey e 10000 kt kv).run P w= .ok () w:=λe=>C3 hk fC e 9998
   have JA:=wY (w:=w) hk kv;obtain⟨bk,db,h⟩:=aU.1 hB;rw[aT]at db;split at h
   case h_2=>exact h.elim
   rename_i es;obtain⟨r,hr,h⟩:=aU.1 h;obtain⟨l,hl,hK⟩:=aU.1 h;rw[aY]at hK;have Qs:=C6 hr p7;obtain⟨aC,rfl⟩:=rY;obtain⟨bq,clock,⟨hb,qy⟩,dk,eG⟩:=hM.bk id _ db;have m9:∀o,eV w {w with heap:=w.heap.setIfInBounds (ρ.aI (.aj id)).b o} (ρ.aI (.aj id)).b:=λo=>
    ⟨λb dh=>(heap_set (o':=o) hb).2 b dh,aE,rfl,rfl,rfl⟩
   have bY:Live ρ m (.aj id):=⟨_,db,aE,by rintro⟨_,_,e⟩;cases e⟩
   have gQ:∀(oI:Array MapEntry)(gy:Nat),ib oI gy->(Instr.mapUpdate t (.map (some (ρ.aI (.aj id)).b)) kv vv).run P w= .ok () {w with heap:=w.heap.setIfInBounds (ρ.aI (.aj id)).b (.map oI gy)}->
     (iL ρ w ρ {w with heap:=w.heap.setIfInBounds (ρ.aI (.aj id)).b (.map oI gy)}->AN ρ {w with heap:=w.heap.setIfInBounds (ρ.aI (.aj id)).b (.map oI gy)} l oI)->dd P (do Instr.mapUpdate t (.map (some (ρ.aI (.aj id)).b)) kv vv;pure Next.skip) ρ m w K:=by
    intro oI gy MC cP hmr;obtain⟨jo,hX⟩:=hM.Ly (zw:= .mp l) db bY (m9 _) (λg=>⟨oI,gy,⟨(heap_set hb).1,MC⟩,hmr g⟩) (by
     rintro i' j' esz e ⟨b2,fI,ia⟩;rw[TH (by rw[<-hM.n];exact aC)]at fI
     cases fI;cases ia)
    refine⟨.skip,Go.undef,_,.undef,_,ρ,?_,.inr ⟨rfl,rfl⟩,hK,jo,rfl,hX⟩;rw[Sem.run_bind,cP];rfl
   rcases HR (ρ:=ρ) (w:=w) hk fC r es bq.toList 0 l (by simpa using dk) (λi e he=>by
     obtain⟨e',h1,h2⟩:=eG i e he;exact⟨e',by simpa using h1,h2⟩) hl with⟨hf,rfl⟩|⟨j,e',hf,hj,ET,rfl⟩
   .refine gQ (bq.push {key:=kv,val:=vv,born:=clock}) (clock+1) (ib.push qy) ?_ λg=>⟨by simp[dk],λi e he=>?_⟩
    .simp[Instr.mapUpdate,run_underlying ht,Go.MapKept.run_getObj_map hb,Qq,JA,hf,run_setObj_map _ hb,Result.andThen]
    .rcases aaf i es.length with h1|h1
     .rw[aac h1]at he;obtain⟨e',h2,h3,h4⟩:=eG i e he;exact⟨e',by rw[acP,if_neg om];exact h2,h3,h4.cm g⟩
     .have hi:=(Km.1 he).1;simp at hi;have me:i=es.length:=om;subst me;simp at he;subst he;exact⟨_,by rw[acP,if_pos dk.symm],rfl,Qs.cm g⟩
   .have oz:bq[j]? =some e':=by simpa using hj
    have ez:=(aaC.1 oz).1;refine gQ (bq.modify j λe=>{e with key:=kv,val:=vv}) clock (ib.mod qy) ?_ λg=>⟨by simp[dk],λi e he=>?_⟩
    .rw[aaP]at hf;simp[Instr.mapUpdate,run_underlying ht,Go.MapKept.run_getObj_map hb,Qq,JA,hf,run_setObj_map _ hb,Result.andThen,oz,ET,MA fC]
    .rw[aaW]at he;by_cases p9:j=i
     .subst p9;rw[if_pos rfl,if_pos om]at he;cases he;exact⟨{e' with key:=kv,val:=vv},by rw[aba,if_pos rfl,oz];rfl,rfl,Qs.cm g⟩
     .rw[if_neg p9]at he;obtain⟨e2,h2,h3,h4⟩:=eG i e he;exact⟨e2,by rw[aba,if_neg p9];exact h2,h3,h4.cm g⟩
  .exact h.elim
 .exact h.elim
theorem ay.still(hM:ay ρ m w){id:Nat}{es:List ME}(hb:m[id]? =some (.mp es)):ay {ρ with S:=λb=>ρ.S b\/b=(ρ.aI (.aj id)).b} (m.set id .aS) w/\Ext ρ m w {ρ with S:=λb=>ρ.S b\/b=(ρ.aI (.aj id)).b} (m.set id .aS) w:=by
 have aC:id<m.length:=(Km.1 hb).1;have bY:Live ρ m (.aj id):=⟨_,hb,aE,by rintro⟨_,_,e⟩;cases e⟩
 have g:iL ρ w {ρ with S:=λb=>ρ.S b\/b=(ρ.aI (.aj id)).b} w:=⟨Ym _,λ_ _=>rfl,λ_ h=>.inl h,λb hb=>rfl⟩
 have get:∀{k:Nat}{b:Bk},(m.set id .aS)[k]? =some b->(k≠id/\m[k]? =some b)\/(k=id/\b= .aS):=by
  intro k b hb;by_cases hk:k=id
  .subst hk;rw[TH aC]at hb;exact .inr ⟨rfl,by simpa using hb.symm⟩
  .rw[U7 (Ne.symm hk)]at hb;exact .inl ⟨hk,hb⟩
 have ew:∀{k i j esz e},dY (m.set id .aS) k i j esz e->dY m k i j esz e:=by
  intro k i j esz e ho;obtain⟨b2,hb,ho⟩:=ho;rcases get hb with⟨_,hb⟩|⟨_,hb⟩
  .exact⟨b2,hb,ho⟩
  .subst hb;cases ho
 have dn:∀k,Live {ρ with S:=λb=>ρ.S b\/b=(ρ.aI (.aj id)).b} (m.set id .aS) k->Live ρ m k/\k≠.aj id:=by
  intro k hk;cases k with
  |aj k=>
   obtain⟨b,hb,hn,be⟩:=hk;rcases get hb with⟨dh,hb⟩|⟨_,rfl⟩
   .exact⟨⟨b,hb,hn,be⟩,λe=>by cases e;exact dh rfl⟩
   .exact absurd rfl hn
  |sub k i j=>
   obtain⟨⟨esz,e,ho⟩,be⟩:=hk;exact⟨⟨⟨esz,e,ew ho⟩,be⟩,λe=>by cases e⟩
 refine⟨⟨by simp[hM.n],?_,?_,λk k' hk fZ=>hM.inj k k' (dn k hk).1 (dn k' fZ).1,?_,?_⟩,
  ⟨Ym _,λ_ _=>rfl,λ_ h=>.inl h,?_,λk hk=>.inr ⟨k,(dn k hk).1,rfl⟩,λ_ _ _=>rfl,Ym _,rfl,rfl,rfl⟩⟩
 .rintro b (h|rfl)
  .exact hM.S b h
  .exact(hM.aL _ bY).1
 .intro k hk;obtain⟨h1,h2⟩:=dn k hk;refine⟨(hM.aL k h1).1,?_⟩;rintro(h|h)
  .exact(hM.aL k h1).2 h
  .exact h2 (hM.inj k _ h1 bY h)
 .intro k b hb;rcases get hb with⟨_,hb⟩|⟨_,rfl⟩
  .exact(hM.bk k b hb).cm g (hM.eT hb) λ_ _=>rfl
  .trivial
 .intro k i j esz e ho be;exact(hM.ei k i j esz e (ew ho) be).cm g rfl
 .rintro b (h|rfl)
  .exact .inl h
  .exact .inr (.inr ⟨_,bY,rfl⟩)
theorem rZ:∀{es:List ME}{l:List (Value×Value)},rP es=some l->∀(bq:List MapEntry),bq.length=es.length->(∀(i:Nat)e,es[i]? =some e->∃e',bq[i]? =some e'/\e'.key=e.key/\df ρ w e.val e'.val)->
  bq.map (λe=>(e.key,e.val))=l/\∀p,p∈l->cw p.1=true/\cw p.2=true
 | [],l,h,bq,hl,hr=>by
  simp[rP]at h;subst h;have:bq=[]:=adz.1 (by simpa using hl)
  subst this;simp
 |e::r,l,h,[],hl,hr=>by simp at hl
 |e::r,l,h,e'::r',hl,hr=>by
  obtain⟨k,v⟩:=e;unfold rP at h;split at h
  .rename_i heq;cases heq
  .rename_i k1 v1 r1 heq;cases heq;split at h
   .rename_i hp;rw[aab]at hp;obtain⟨l1,zB,rfl⟩:=aaz.1 h;obtain⟨a1,a2⟩:=rZ zB r' (by simpa using hl) (λi e he=>by simpa using hr (i+1) e (by simpa using he))
    obtain⟨e0,h0,h1,h2⟩:=hr 0 _ rfl;simp only[ab9,aav]at h0;subst h0;have h3:e'.val=v1:=(bF (ρ:=ρ) (w:=w) h2 (λe=>by subst e;simp[cw]at hp)).1
    refine⟨by rw[aaL,a1,h1,h3],λp HP=>?_⟩
    rcases aaJ.1 HP with rfl|HP
    .exact hp
    .exact a2 p HP
   .cases h
  .cases h
theorem Uc(hM:ay ρ m w){t kt vt:TypeId}(ht:P.underlying t=some (.map kt vt)){id esz:Nat}{es:List MO}(db:m[id]? =some (.mo esz es none))(h:∀(st:List Nat)(ip:Nat),st.length=es.length->st.Nodup->(∀s,s∈st->s<ip)->nJ m λn=>K (.rv (.one (.ptr n 0))) (gJ (aV m id (.mo esz es (some (st,ip)))) [.iw id ip []])):
  dd P (do pure (Next.value (<-Instr.range t (.map (some (ρ.aI (.aj id)).b))))) ρ m w K:=by
 obtain⟨bq,clock,⟨hb,qy⟩,eG,lV⟩:=hM.bk id _ db;have p8:id<m.length:=(Km.1 db).1;have h:=h (bq.toList.map (·.born)) clock (by simpa using eG.1) qy.2 (λs hs=>by obtain⟨e,he,rfl⟩:=aal.1 hs;exact qy.1 e he)
 rw[gP,cg,aY]at h;have bY:Live ρ m (.aj id):=⟨_,db,aE,by rintro⟨_,_,e⟩;cases e⟩
 obtain⟨r8,mG⟩:=hM.Ly (zw:= .mo esz es (some (bq.toList.map (·.born),clock))) db bY (eV.refl w _) (λg=>⟨bq,clock,⟨hb,qy⟩,eG,λst ip e=>by cases e;exact⟨rfl,rfl⟩⟩) (by rintro i' j' rQ e ⟨b2,fI,ia⟩;rw[TH p8]at fI;cases fI;obtain⟨k,hi,rfl,rfl⟩:=ia.Su;exact⟨_,db,.mo hi⟩)
 let lo:wu:=⟨w.heap.size,0,0,0⟩;have hn:=r8.n;have bO:(ρ.push lo).aI (.aj (m.set id (.mo esz es (some (bq.toList.map (·.born),clock)))).length)=lo:=by rw[<-hn];exact bI.gi _ lo
 obtain⟨h1,h2⟩:=r8.push (bk:= .iw id clock []) (l:=lo) (eN.alloc w (.mapIter (some (ρ.aI (.aj id)).b) clock #[] clock)) (Ym _) (by simp[lo]) (by
  refine⟨by show id<ρ.n+1;rw[hM.n];omega,by rw[bO],#[],?_,rfl⟩
  rw[bO,ρ.eU lo (k:= .aj id) (by show id<ρ.n;rw[hM.n];exact p8)]
  exact(heap_alloc w _).1) trivial
 refine⟨_,.pointer (some ⟨w.heap.size,0,none⟩),w.alloc (.mapIter (some (ρ.aI (.aj id)).b) clock #[] clock),_,_,_,?_,.inl rfl,h,h1,?_,mG.trans h2⟩
 .rw[Sem.run_bind,run_range_map w t kt vt (ρ.aI (.aj id)).b bq clock ht hb];rfl
 .have bO:(ρ.push lo).aI (.aj m.length)=lo:=by rw[<-hM.n];exact bI.gi ρ lo
  refine⟨by show m.length<ρ.n+1;rw[hM.n];omega,?_⟩
  rw[bO]
theorem Ud(hM:ay ρ m w){ty:TypeId}{id mid ip:Nat}{seen:List Nat}(db:m[id]? =some (.iw mid ip seen)){esz:Nat}{es:List MO}{st:List Nat}{c2:Nat}(Ue:m[mid]? =some (.mo esz es (some (st,c2))))(hc:c2=ip)(MD:(∀s,s∈st->s∈seen)->K (.bD [.one (.ah (.val (.bool false)))]) (aV m mid (.mo esz es none)))(ol:∀(i:Nat)(x:MO)(s:Nat),es[i]? =some x->st[i]? =some s->¬s∈seen->K (.bD [.one (.ah (.val (.bool true))),.one (.ah (.val x.key)),.one .aA]) (aV m id (.iw mid ip (s::seen)))):
  dd P (do pure (Next.value (<-Instr.next (.pointer (some ⟨(ρ.aI (.aj id)).b,0,none⟩)) false ty))) ρ m w K:=by
 subst hc;obtain⟨W7,h2,s,h3,Ft⟩:=hM.bk id _ db;obtain⟨bq,clock,⟨hb,qy⟩,eG,lV⟩:=hM.bk mid _ Ue;obtain⟨iB,MF⟩:=lV _ _ rfl;clear lV;have lV:=MF;subst iB;have p8:id<m.length:=(Km.1 db).1;have W8:mid<m.length:=(Km.1 Ue).1;have bY:Live ρ m (.aj id):=⟨_,db,aE,by rintro⟨_,_,e⟩;cases e⟩
 have Uf:Live ρ m (.aj mid):=⟨_,Ue,aE,by rintro⟨_,_,e⟩;cases e⟩
 have iu:∀x,x∈seen↔x∈s.toList:=λx=>by rw[<-Ft];simp
 rcases run_next_at (P:=P) w ty (ρ.aI (.aj id)).b (ρ.aI (.aj mid)).b clock clock s bq clock h3 hb qy.1 (Ym _)with⟨h0,cP⟩|⟨e,he,w1,V0,cP⟩
 .have hK:=MD λx hx=>by
   rw[iu];rw[<-lV]at hx;obtain⟨e,he,rfl⟩:=aal.1 hx;have V1:(leftOf bq s).toList=[]:=adz.1 (by simpa using h0)
   have V1:(bq.filter λe=>!s.contains e.born).toList=[]:=V1
   rw[Array.toList_filter,List.filter_eq_nil_iff]at V1;have:=V1 e he;simpa using this
  rw[aY]at hK;obtain⟨r8,mG⟩:=hM.Ly (zw:= .mo esz es none) Ue Uf (eV.refl w _) (λg=>⟨bq,clock,⟨hb,qy⟩,eG,aE⟩) (by rintro i' j' rQ e ⟨b2,fI,ia⟩;rw[TH W8]at fI;cases fI;obtain⟨k,hi,rfl,rfl⟩:=ia.Su;exact⟨_,Ue,.mo hi⟩)
  refine⟨_,.tuple #[.bool false],w,_,_,ρ,by rw[Sem.run_bind,cP];rfl,.inl rfl,hK,r8,⟨[.bool false],rfl,rfl,λi r hi=>?_⟩,mG⟩
  match i,hi with
  |0,hi=>cases hi;exact⟨_,rfl,.val _ rfl⟩
 .have he:e∈(bq.filter λe=>!s.contains e.born).toList:=he
  rw[Array.toList_filter,aca]at he;obtain⟨hem,hns⟩:=he;obtain⟨i,hi⟩:=aaa hem;have yU:i<es.length:=by have:=(Km.1 hi).1;rw[<-eG.1];simpa using this
  obtain⟨x,hx⟩:∃x,es[i]? =some x:=⟨_,vU yU⟩;obtain⟨e1,g1,g2,g3,g4⟩:=eG.2 i x hx;have:e1=e:=by rw[<-abq,hi]at g1;cases g1;rfl
  subst this;have hK:=ol i x e1.born hx (by rw[<-lV,Tm,hi];rfl) (by rw[iu];simpa using hns)
  rw[aY]at hK;have hh:w1.heap=w.heap/\w1.os=w.os/\w1.tape=w.tape/\w1.output=w.output:=by rcases V0 with rfl|rfl<;>exact⟨rfl,rfl,rfl,rfl⟩
  have Qt:(ρ.aI (.aj id)).b<w.heap.size:=(hM.aL _ bY).1;have m9:eV w (Go.ChangeMaps.setBlock w1 (ρ.aI (.aj id)).b (.mapIter (some (ρ.aI (.aj mid)).b) clock (s.push e1.born) clock)) (ρ.aI (.aj id)).b:=
   ⟨λb dh=>by show(w1.heap.setIfInBounds _ _)[b]? =_;rw[hh.1,acm (Ne.symm dh)],by show(w1.heap.setIfInBounds _ _).size=_;rw[Array.size_setIfInBounds,hh.1],hh.2.1,hh.2.2.1,hh.2.2.2⟩
  obtain⟨jo,hX⟩:=hM.Ly (zw:= .iw mid clock (e1.born::seen)) db bY m9 (λg=>⟨W7,h2,s.push e1.born,by
    show(w1.heap.setIfInBounds _ _)[_]? =_;rw[hh.1,ab2 Qt],by simp[Ft]⟩) (by
   rintro i' j' rQ e ⟨b2,fI,ia⟩;rw[TH p8]at fI;cases fI;cases ia)
  have MG:=(g4.one:e1.val.oneCell'=true);refine⟨_,.tuple #[.bool true,e1.key,e1.val],_,_,_,ρ,by rw[Sem.run_bind,cP];rfl,.inl rfl,hK,jo,⟨[.bool true,e1.key,e1.val],rfl,rfl,λi r hi=>?_⟩,hX⟩
  match i,hi with
  |0,hi=>cases hi;exact⟨_,rfl,.val _ rfl⟩
  |1,hi=>cases hi;exact⟨_,rfl,by rw[g2];exact .val _ g3⟩
  |2,hi=>cases hi;exact⟨_,rfl,MG⟩
theorem Ug(hM:ay ρ m w){id mid ip:Nat}{s:Nat}{seen:List Nat}(db:m[id]? =some (.iw mid ip (s::seen))){esz:Nat}{es:List MO}{st:List Nat}{c2:Nat}(Ue:m[mid]? =some (.mo esz es (some (st,c2))))(hc:c2=ip){i:Nat}{x:MO}(hx:es[i]? =some x)(hs:st[i]? =some s)(hK:K (.bD [.one (.ah (.val x.key)),.one .aA]) m):
  dd P (do pure (Next.value (<-Instr.entry (.pointer (some ⟨(ρ.aI (.aj id)).b,0,none⟩))))) ρ m w K:=by
 subst hc;obtain⟨W7,h2,s0,h3,Ft⟩:=hM.bk id _ db;obtain⟨bq,clock,⟨hb,qy⟩,eG,lV⟩:=hM.bk mid _ Ue;obtain⟨iB,MF⟩:=lV _ _ rfl;clear lV;have lV:=MF;subst iB;obtain⟨e,g1,g2,g3,g4⟩:=eG.2 i x hx;have oh:e.born=s:=by rw[<-lV,Tm,abq,g1]at hs;simpa using hs
 have hs0:s0=(Array.mk seen.reverse).push e.born:=by apply Array.toList_inj.1;have:=congrArg List.reverse Ft;simp at this;simp[this,oh]
 have cP:=run_entry_at (P:=P) w (ρ.aI (.aj id)).b (ρ.aI (.aj mid)).b clock (Array.mk seen.reverse) bq clock e (by rw[<-hs0];exact h3) hb (by rw[<-abq]at g1;exact Tp g1) qy.2
 have MG:=(g4.one:e.val.oneCell'=true);refine dd.pure hM (v:= .tuple #[e.key,e.val]) (by rw[Sem.run_bind,cP];rfl) hK ⟨[e.key,e.val],rfl,rfl,λi r hi=>?_⟩
 match i,hi with
 |0,hi=>cases hi;exact⟨_,rfl,by rw[g2];exact .val _ g3⟩
 |1,hi=>cases hi;exact⟨_,rfl,MG⟩
theorem Fw(hM:ay ρ m w)(hE:bl ρ w aX a.tmps){t kt vt t2:TypeId}{ats:Array TypeId}{kk:Ky}{x k:Operand}{x' k':X}(W9:ats[0]? =some t)(ht:P.underlying t=some (.map kt vt))(hk:oL P kt=some kk)(hx:bn x=some x')(MB:bn k=some k')(h:step P (.L4 kk x' k') aX m K):dd P (do pure (Next.value (<-Builtin.delete_ ats t2 #[a.eval x,a.eval k]))) ρ m w K:=by
 have rY:=aR hE hx;have y4:=aR hE MB;simp only[step]at h;generalize a.eval x=xv at rY|-;generalize a.eval k=kv at y4|-;generalize x'.ev aX=xc at rY h;split at h
 .rename_i id;generalize k'.ev aX=kc at y4 h;split at h
  .rename_i Jz;rcases cn.1 h with⟨fC,h⟩|⟨_,h⟩
   case inr=>exact h.elim
   obtain⟨rfl,EQ⟩:=bF y4 (λe=>by subst e;cases kk<;>simp[kR]at fC)
   replace fC:=wX fC EQ;obtain⟨bk,db,h⟩:=aU.1 h;rw[aT]at db;split at h
   .rename_i esz es st ip;obtain⟨o,ho,h⟩:=aU.1 h;have pU:=m8 hk fC;have gj:=oX fC;obtain⟨aC,rfl⟩:=rY;obtain⟨bq,clock,⟨hb,qy⟩,eG,lV⟩:=hM.bk id _ db;obtain⟨iB,MF⟩:=lV _ _ rfl;clear lV;have lV:=MF;subst iB;have LG:=A3 eG;have hf:=nP fC es bq.toList 0 o LG.1 LG.2 ho;have bY:Live ρ m (.aj id):=⟨_,db,aE,by rintro⟨_,_,e⟩;cases e⟩
    have m9:∀o,eV w {w with heap:=w.heap.setIfInBounds (ρ.aI (.aj id)).b o} (ρ.aI (.aj id)).b:=λo=>
     ⟨λb dh=>(heap_set (o':=o) hb).2 b dh,aE,rfl,rfl,rfl⟩
    have p8:id<m.length:=(Km.1 db).1;cases o with
    |none=>
     have jC:m.set id (.mo esz es (some (st,clock)))=m:=by
      apply abr;intro i;by_cases hh:id=i
      .subst hh;rw[TH p8,db]
      .rw[U7 hh]
     have cP:(Builtin.delete_ ats t2 #[.map (some (ρ.aI (.aj id)).b),kv]).run P w= .ok (.tuple #[]) {w with heap:=w.heap.setIfInBounds (ρ.aI (.aj id)).b (.map bq clock)}:=by simp[Builtin.delete_,W9,run_underlying ht,Go.MapKept.run_getObj_map hb,run_checkKey pU gj,run_findKey pU hf,run_setObj_map _ hb,Result.andThen]
     obtain⟨jo,hX⟩:=hM.Ly (zw:= .mo esz es (some (st,clock))) db bY (m9 (.map bq clock)) (λg=>by
      refine⟨bq,clock,⟨(heap_set hb).1,qy⟩,⟨eG.1,λi e hi=>?_⟩,λst ip e=>by cases e;exact⟨rfl,lV⟩⟩
      obtain⟨e',q1,q2,q3,q4⟩:=eG.2 i e hi;exact⟨e',q1,q2,q3,q4.cm g (λa b c e=>by cases e;exact aC)⟩) (by
      rintro i' j' rQ e ⟨b2,fI,ia⟩;rw[jC]at fI;exact⟨b2,fI,ia⟩)
     rw[jC]at jo hX;exact⟨_,.tuple #[],_,_,_,ρ,by rw[Sem.run_bind,cP];rfl,.inl rfl,h,jo,⟨[],rfl,rfl,aE⟩,hX⟩
    |some r=>
     obtain⟨j,mv⟩:=r;obtain⟨i,e',hj,hi,mT,hf⟩:=hf;have hj:j=i:=om;subst hj;have yU:=(Km.1 hi).1;have aaG:j<bq.size:=by rw[eG.1];exact yU
     rw[aaP]at hf;have cP:(Builtin.delete_ ats t2 #[.map (some (ρ.aI (.aj id)).b),kv]).run P w= .ok (.tuple #[]) {w with heap:=w.heap.setIfInBounds (ρ.aI (.aj id)).b (.map (bq.eraseIdxIfInBounds j) clock)}:=by simp[Builtin.delete_,W9,run_underlying ht,Go.MapKept.run_getObj_map hb,run_checkKey pU gj,run_findKey pU hf,run_setObj_map _ hb,Result.andThen]
     have HS:(bq.eraseIdxIfInBounds j).toList=bq.toList.eraseIdx j:=by simp[Array.eraseIdxIfInBounds,aaG]
     have hbo:(bq.eraseIdxIfInBounds j).toList.map (·.born)=(bq.toList.map (·.born)).eraseIdx j:=by rw[HS];exact Go.ChangeMaps.map_eraseIdx _ _ _
     simp only[aY]at h;obtain⟨U',jo,hX⟩:=hM.Qo (SI:=some (st.eraseIdx j,clock)) db yU hb (m9 (.map (bq.eraseIdxIfInBounds j) clock)) (heap_set hb).1
      ⟨λe he=>qy.1 e (by rw[HS]at he;exact List.mem_of_mem_eraseIdx he),by rw[hbo];exact qy.2.eraseIdx j⟩ HS (λst ip e=>by cases e;exact⟨rfl,by rw[hbo,lV]⟩)
     exact⟨_,.tuple #[],_,_,_,U',by rw[Sem.run_bind,cP];rfl,.inl rfl,h,jo,⟨[],rfl,rfl,aE⟩,hX⟩
   .exact h.elim
  .exact h.elim
 .exact h.elim
theorem JB(hM:ay ρ m w)(hE:bl ρ w aX a.tmps){t kt vt:TypeId}{x:Operand}{x':X}(ht:P.underlying t=some (.map kt vt))(hx:bn x=some x')(h:step P (.Ws x') aX m K):dd P (do pure (Next.value (<-Instr.range t (a.eval x)))) ρ m w K:=by
 have rY:=aR hE hx;simp only[step]at h;generalize a.eval x=xv at rY|-;split at h
 .rename_i id heq;rw[heq]at rY;obtain⟨bk,db,h⟩:=aU.1 h;rw[aT]at db;split at h
  case h_3=>exact h.elim
  case h_2=>
   rename_i esz es;obtain⟨aC,rfl⟩:=rY;exact Uc hM ht db h
  rename_i es;obtain⟨l,hl,h⟩:=aU.1 h;rw[gP,cg,aY]at h;obtain⟨aC,rfl⟩:=rY;obtain⟨bq,clock,⟨hb,qy⟩,dk,eG⟩:=hM.bk id _ db;obtain⟨r8,mG⟩:=hM.still db;have HT:=rZ (ρ:=ρ) (w:=w) hl bq.toList (by simpa using dk) (λi e he=>by
   obtain⟨e',h1,h2⟩:=eG i e he;exact⟨e',by simpa using h1,h2⟩)
  let lo:wu:=⟨w.heap.size,0,0,0⟩;have hn:=r8.n;have hmb:=r8.S _ (.inr rfl);obtain⟨h1,h2⟩:=r8.push (bk:= .it [] l) (l:=lo) (eN.alloc w (.mapIter (some (ρ.aI (.aj id)).b) clock #[] clock)) (Ym _) (by simp[lo]) (by
   have bO:(bI.push {ρ with S:=λb=>ρ.S b\/b=(ρ.aI (.aj id)).b} lo).aI (.aj (m.set id .aS).length)=lo:=by rw[<-hn];exact bI.gi _ lo
   refine⟨(ρ.aI (.aj id)).b,#[],clock,bq,?_,?_,.inr rfl,?_,qy,?_,aE,λp hp=>HT.2 p (by simpa using hp)⟩
   .rw[bO];exact(heap_alloc w _).1
   .rw[bO]
   .exact((heap_alloc w _).2 _ hmb).trans hb
   .rw[<-HT.1];congr 2;exact Array.filter_eq_self.2 aE) trivial
  refine⟨_,.pointer (some ⟨w.heap.size,0,none⟩),w.alloc (.mapIter (some (ρ.aI (.aj id)).b) clock #[] clock),_,_,_,?_,.inl rfl,h,h1,?_,mG.trans h2⟩
  .rw[Sem.run_bind,run_range_map w t kt vt (ρ.aI (.aj id)).b bq clock ht hb];rfl
  .have bO:(bI.push {ρ with S:=λb=>ρ.S b\/b=(ρ.aI (.aj id)).b} lo).aI (.aj m.length)=lo:=by
    have:=bI.gi {ρ with S:=λb=>ρ.S b\/b=(ρ.aI (.aj id)).b} lo
    rw[<-hM.n];exact this
   refine⟨by show m.length<ρ.n+1;rw[hM.n];omega,?_⟩
   rw[bO]
 .exact h.elim
theorem xb:∀{L:List MapEntry}{i:Nat}{e:MapEntry},L[i]? =some e->(L.map (·.born)).Nodup->L.filter (λx=>!(x.born==e.born))=L.eraseIdx i
 | [],i,e,h,_=>by simp at h
 |x::r,0,e,h,hn=>by
  simp only[ab9,aav]at h;subst h;rw[aaL,abH]at hn;rw[ab0,if_neg aE,List.eraseIdx_zero,List.tail_cons];refine adf.2 λy hy=>?_
  have:y.born≠x.born:=λhe=>hn.1 (he▸aal.2 ⟨y,hy,rfl⟩)
  simpa using this
 |x::r,i+1,e,h,hn=>by
  simp only[abK]at h;rw[aaL,abH]at hn;have:x.born≠e.born:=λhe=>hn.1 (he▸aal.2 ⟨e,Tp h,rfl⟩)
  rw[ab0,if_pos (by simpa using this),List.eraseIdx_cons_succ,xb h hn.2]
theorem JC{bq:Array MapEntry}{clock:Nat}(hb:ib bq clock){seen:Array Nat}{i:Nat}{e:MapEntry}(h:(bq.filter λe=>!seen.contains e.born).toList[i]? =some e):
  (bq.filter λx=>!(seen.push e.born).contains x.born).toList=(bq.filter λe=>!seen.contains e.born).toList.eraseIdx i:=by
 have e0:(bq.filter λe=>!seen.contains e.born).toList=bq.toList.filter λe=>!seen.contains e.born:=aE
 have e1:(bq.filter λx=>!(seen.push e.born).contains x.born).toList=bq.toList.filter λx=>!(seen.push e.born).contains x.born:=aE
 rw[e0]at h|-;rw[e1,<-xb h ((List.filter_sublist.map _).nodup hb.2),List.filter_filter];congr 1;funext x;by_cases h1:x.born=e.born<;>simp[h1,Array.contains_push,Bool.and_comm]
theorem JD(hM:ay ρ m w)(hE:bl ρ w aX a.tmps){ty:TypeId}{x:Operand}{x':X}(hx:bn x=some x')(h:step P (.tC x') aX m K):dd P (do pure (Next.value (<-Instr.next (a.eval x) false ty))) ρ m w K:=by
 have rY:=aR hE hx;simp only[step]at h;generalize a.eval x=xv at rY|-;split at h
 .rename_i id heq;rw[heq]at rY;obtain⟨bk,db,h⟩:=aU.1 h;rw[aT]at db;split at h
  case h_3=>exact h.elim
  case h_2=>
   rename_i mid ip seen;obtain⟨b2,fI,h⟩:=aU.1 h;rw[aT]at fI;split at h
   .obtain⟨hc,ho,hs⟩:=h;obtain⟨aC,rfl⟩:=rY;have h2:=(hM.bk id _ db).2.1;have hp:(Value.pointer (some ⟨(ρ.aI (.aj id)).b,(ρ.aI (.aj id)).aq+0,none⟩))= .pointer (some ⟨(ρ.aI (.aj id)).b,0,none⟩):=by rw[h2]
    rw[hp];exact Ud hM db fI hc ho hs
   .exact h.elim
  rename_i cur left;obtain⟨MD,ol⟩:=h;obtain⟨aC,rfl⟩:=rY;obtain⟨mb,seen,clock,bq,h1,h2,h3,h4,h5,h6,h7,h8⟩:=hM.bk id _ db;have bY:Live ρ m (.aj id):=⟨_,db,aE,by rintro⟨_,_,e⟩;cases e⟩
  have hp:(Value.pointer (some ⟨(ρ.aI (.aj id)).b,(ρ.aI (.aj id)).aq+0,none⟩))= .pointer (some ⟨(ρ.aI (.aj id)).b,0,none⟩):=by rw[h2]
  rw[hp];rcases run_next_at (P:=P) w ty (ρ.aI (.aj id)).b mb clock clock seen bq clock h1 h4 h5.1 (Ym _)with⟨h0,cP⟩|⟨e,he,w1,V0,cP⟩
  .refine dd.pure hM (v:= .tuple #[.bool false]) (by rw[Sem.run_bind,cP];rfl) (MD ?_) ⟨[.bool false],rfl,rfl,λi r hi=>?_⟩
   .rw[<-h6];have:(bq.filter λe=>!seen.contains e.born).toList=[]:=adz.1 (by simpa[leftOf]using h0)
    rw[this];rfl
   .match i,hi with
    |0,hi=>cases hi;exact⟨_,rfl,.val _ rfl⟩
  .obtain⟨i,hi⟩:=aaa he;have hi:(bq.filter λe=>!seen.contains e.born).toList[i]? =some e:=hi
   have hli:left[i]? =some (e.key,e.val):=by rw[<-h6,Tm,hi];rfl
   have jZ:=h8 _ (.inl (Tp hli));have hK:=ol i e.key e.val _ hli rfl;rw[aY]at hK;have hbe:(ρ.aI (.aj id)).b≠mb:=λhh=>(hM.aL _ bY).2 (hh▸h3)
   have hh:w1.heap=w.heap/\w1.os=w.os/\w1.tape=w.tape/\w1.output=w.output:=by rcases V0 with rfl|rfl<;>exact⟨rfl,rfl,rfl,rfl⟩
   have Qt:(ρ.aI (.aj id)).b<w.heap.size:=(hM.aL _ bY).1;have m9:eV w (Go.ChangeMaps.setBlock w1 (ρ.aI (.aj id)).b (.mapIter (some mb) clock (seen.push e.born) clock)) (ρ.aI (.aj id)).b:=
    ⟨λb dh=>by show(w1.heap.setIfInBounds _ _)[b]? =_;rw[hh.1,acm (Ne.symm dh)],by show(w1.heap.setIfInBounds _ _).size=_;rw[Array.size_setIfInBounds,hh.1],hh.2.1,hh.2.2.1,hh.2.2.2⟩
   obtain⟨jo,hX⟩:=hM.Ly (zw:= .it [(e.key,e.val)] (left.eraseIdx i)) db bY m9 (λg=>⟨mb,seen.push e.born,clock,bq,by
     show(w1.heap.setIfInBounds _ _)[_]? =_;rw[hh.1,ab2 Qt],h2,h3,(m9.heap mb (Ne.symm hbe)).trans h4,h5,by
     rw[JC h5 hi,<-h6];exact Go.ChangeMaps.map_eraseIdx _ _ _,λp hp=>⟨e,seen,by
      have:e∈(bq.filter λe=>!seen.contains e.born).toList:=Tp hi
      simp at this|-;exact this.1,rfl,(abY.1 hp).symm⟩,λp hp=>by
     rcases hp with hp|hp
     .exact h8 p (.inl (List.mem_of_mem_eraseIdx hp))
     .simp at hp;subst hp;exact jZ⟩) (by
     rintro i' j' esz e ⟨b2,fI,ia⟩;rw[TH (by rw[<-hM.n];exact aC)]at fI
     cases fI;cases ia)
   refine⟨_,.tuple #[.bool true,e.key,e.val],_,_,_,ρ,by rw[Sem.run_bind,cP];rfl,.inl rfl,hK,jo,⟨[.bool true,e.key,e.val],rfl,rfl,λi r hi=>?_⟩,hX⟩
   match i,hi with
   |0,hi=>cases hi;exact⟨_,rfl,.val _ rfl⟩
   |1,hi=>cases hi;exact⟨_,rfl,.val _ jZ.1⟩
   |2,hi=>cases hi;exact⟨_,rfl,.val _ jZ.2⟩
 .exact h.elim
theorem JE(hM:ay ρ m w)(hE:bl ρ w aX a.tmps){x:Operand}{x':X}(hx:bn x=some x')(h:step P (.Wu x') aX m K):dd P (do pure (Next.value (<-Instr.entry (a.eval x)))) ρ m w K:=by
 have rY:=aR hE hx;simp only[step]at h;generalize a.eval x=xv at rY|-;split at h
 .rename_i id heq;rw[heq]at rY;obtain⟨bk,db,h⟩:=aU.1 h;rw[aT]at db;split at h
  case h_3=>exact h.elim
  case h_2=>
   rename_i mid ip s seen;obtain⟨b2,fI,h⟩:=aU.1 h;rw[aT]at fI;split at h
   .obtain⟨hc,i,x,hx,hs,hK⟩:=h;obtain⟨aC,rfl⟩:=rY;have h2:=(hM.bk id _ db).2.1;have hp:(Value.pointer (some ⟨(ρ.aI (.aj id)).b,(ρ.aI (.aj id)).aq+0,none⟩))= .pointer (some ⟨(ρ.aI (.aj id)).b,0,none⟩):=by rw[h2]
    rw[hp];exact Ug hM db fI hc hx hs hK
   .exact h.elim
  .rename_i p tl adl;obtain⟨aC,rfl⟩:=rY;obtain⟨mb,seen,clock,bq,h1,h2,h3,h4,h5,h6,h7,h8⟩:=hM.bk id _ db;obtain⟨e,LZ,he,rfl,hp⟩:=h7 p aE;have jZ:=h8 p (.inr aE);subst hp;have hp:(Value.pointer (some ⟨(ρ.aI (.aj id)).b,(ρ.aI (.aj id)).aq+0,none⟩))= .pointer (some ⟨(ρ.aI (.aj id)).b,0,none⟩):=by rw[h2]
   rw[hp];have cP:=run_entry_at (P:=P) w (ρ.aI (.aj id)).b mb clock LZ bq clock e h1 h4 he h5.2;refine dd.pure hM (v:= .tuple #[e.key,e.val]) (by rw[Sem.run_bind,cP];rfl) h ⟨[e.key,e.val],rfl,rfl,λi r hi=>?_⟩
   match i,hi with
   |0,hi=>cases hi;exact⟨_,rfl,.val _ jZ.1⟩
   |1,hi=>cases hi;exact⟨_,rfl,.val _ jZ.2⟩
 .exact h.elim
end
end Go.AM
namespace Go.AM
section
variable {P:Program} {ρ:bI} {m:Mem} {w:World} {aX:List CV} {a:Act} {K:CV->Mem->Prop}
theorem xd{α:Type}{l:List α}{h:Nat}{E:List α}(hle:h+E.length<=l.length):(cU l h E).length=l.length:=by simp[cU];omega
theorem ra{α:Type}{l:List α}{h:Nat}{E:List α}(hle:h+E.length<=l.length)(i:Nat):(cU l h E)[i]? =if h<=i/\i<h+E.length then E[i-h]? else l[i]? :=by
 have hl:(l.take h).length=h:=by simp;omega
 simp only[cU];rcases aaf i h with h1|h1
 .rw[aac om,if_neg om,aaM,if_pos h1]
 .rw[ZZ om,hl];rcases aaf (i-h) E.length with h2|h2
  .rw[aac h2,if_pos om]
  .rw[ZZ h2,if_neg om,abj];congr 1;omega
theorem bj.MH{c:CC}{v:Value}{pos:Option (Nat×Nat×Nat)}(hc:c.js=true)(h:bj ρ w pos c v):bj ρ w .none c v:=by
 cases c<;>first|exact h|simp[CC.js]at hc
theorem tP(hM:ay ρ m w){id esz h:Nat}{rows E:List (List CC)}{vs:List Value}(hb:m[id]? =some (.row esz rows))(hle:h+E.length<=rows.length)(cI:0<rows.length)(hE:∀cs,cs∈E->cs.length=esz)(yZ:vs.length=E.length*esz)(MG:∀u,u∈vs->u.oneCell'=true)(cq:∀(i:Nat)cs(j:Nat)c,E[i]? =some cs->cs[j]? =some c->∃u,vs[i*esz+j]? =some u/\bj ρ w .none c u):
  ∃w',(storeCells ⟨(ρ.aI (.aj id)).b,(ρ.aI (.aj id)).aq+h*esz,none⟩ vs).run P w= .ok () w'/\ay ρ (m.set id (.row esz (cU rows h E))) w'/\Ext ρ m w ρ (m.set id (.row esz (cU rows h E))) w':=by
 have hid:id<m.length:=(Km.1 hb).1;obtain⟨h2,h3,h4,h5,Cz⟩:=hM.bk id _ hb;have be:0<(ρ.aI (.aj id)).cap:=om;obtain⟨cur,bX,h1,hd⟩:=Cz be;have hmul:(h+E.length)*esz<=(ρ.aI (.aj id)).cap*esz:=aaZ _ om;rw[abf]at hmul;obtain⟨w',gX,hr,rT,ht,dk,hk⟩:=nM (P:=P) (ρ.aI (.aj id)).b ((ρ.aI (.aj id)).aq+h*esz) vs 0 cur w bX (by rw[yZ];omega) MG
 obtain⟨jo,hX⟩:=hM.Ly (zw:= .row esz (cU rows h E)) hb ⟨_,hb,aE,λ_=>be⟩ ht (λg=>⟨by rw[xd hle];exact h2,h3,h4,λcs fe=>by
   obtain⟨i,hi⟩:=aaa fe;rw[ra hle]at hi;split at hi
   .exact hE cs (Tp hi)
   .exact h5 cs (Tp hi),λ_=>⟨gX,rT,by rw[dk];exact h1,λi cs j c hi hj=>by
  rw[hk];rw[ra hle]at hi;have mh:j<esz:=by
   have iB:cs.length=esz:=by
    split at hi
    .exact hE cs (Tp hi)
    .exact h5 cs (Tp hi)
   rw[<-iB];exact(Km.1 hj).1
  split at hi
  .rename_i ir;obtain⟨u,hu,cy⟩:=cq _ cs j c hi hj;have e1:i*esz=h*esz+(i-h)*esz:=by rw[<-abf];congr 1;omega
   have aC:=(Km.1 hu).1;rw[if_pos om];refine⟨u,?_,(cy.cm g aE).wO _⟩;rw[<-hu];congr 1;omega
  .rename_i ir;obtain⟨u,hu,cy⟩:=hd i cs j c hi hj;have dh:¬((ρ.aI (.aj id)).aq+h*esz+0<=(ρ.aI (.aj id)).aq+i*esz+j/\(ρ.aI (.aj id)).aq+i*esz+j<(ρ.aI (.aj id)).aq+h*esz+0+vs.length):=by
    rw[yZ];rcases aaf i h with q|q
    .have:(i+1)*esz<=h*esz:=aaZ _ q;rw[abf,ab3]at this;omega
    .have:(h+E.length)*esz<=i*esz:=aaZ _ om;rw[abf]at this;omega
   rw[if_neg dh];exact⟨u,hu,cy.cm g (by rintro _ _ _ e;cases e;rw[hM.n];exact hid)⟩⟩⟩) (by
  rintro i' j' rQ e ⟨b2,fI,ia⟩;rw[TH hid]at fI;cases fI;obtain⟨Zw,fg,lW⟩:=ia.yO;rw[ra hle]at fg;split at fg
  .obtain⟨u,hu,cy⟩:=cq _ _ _ _ fg lW;exact absurd rfl (cy.AS _ _)
  .exact⟨_,hb,.row fg lW⟩)
 exact⟨w',hr,jo,hX⟩
theorem xe:∀{cs:List CC},qT cs=true->∀c,c∈cs->c.js=true
 | [],_,c,h=>by simp at h
 |x::r,h,c,hc=>by
  simp only[qT,aab]at h;rcases aaJ.1 hc with rfl|hc
  .exact h.1
  .exact xe h.2 c hc
theorem qz:∀{E:List (List CC)},fH E=true->∀cs,cs∈E->qT cs=true
 | [],_,c,h=>by simp at h
 |x::r,h,c,hc=>by
  simp only[fH,aab]at h;rcases aaJ.1 hc with rfl|hc
  .exact h.1
  .exact qz h.2 c hc
theorem qA{E:List (List CC)}(h:fH E=true){i j:Nat}{cs:List CC}{c:CC}(hi:E[i]? =some cs)(hj:cs[j]? =some c):c.js=true:=
 xe (qz h cs (Tp hi)) c (Tp hj)
theorem C7(hM:ay ρ m w){t t2 ty e e2:TypeId}{i:TypeInfo}{z:List CC}{v v2:Value}{c2:CV}{id h:Nat}{rows E2:List (List CC)}(ht:P.underlying t=some (.slice e))(wT:P.underlying t2=some (.slice e2))(hi:P.info? e=some i)(hz:ek P e=some z)(dk:i.size=z.length)(hb:0<i.bytes)(hd:ce ρ w (.rv (.one (.row id i.size 0 (some h)))) v)(qx:ce ρ w c2 v2)(db:m[id]? =some (.row i.size rows))(EP:fF m i.size c2=some E2)(cI:0<rows.length)(hle:h+E2.length<=rows.length)(kF:fH E2=true)(kT:rows.length*i.bytes<=140737488355328)(hK:K (.rv (.one (.row id i.size 0 (some (h+E2.length))))) (m.set id (.row i.size (cU rows h E2)))):
  dd P (do pure (Next.value (<-Builtin.append_ #[t,t2] ty #[v,v2]))) ρ m w K:=by
 have hid:id<m.length:=(Km.1 db).1;have AY:fF m i.size (.rv (.one (.row id i.size 0 (some h))))=some (b9 rows 0 (some h)):=by simp[fF,aT,db]
 obtain⟨Qg,kU,VU,Fo,WQ,Qh,F1⟩:=nO hM AY hd;obtain⟨ad2,Mo,Mq,vL,WR,WS,F2⟩:=nO hM EP qx;have EM:=hz;simp only[ek,U6,N7]at EM;obtain⟨i',eO,zv,Qi,Qe⟩:=EM;rw[hi]at eO;cases eO;have Xa:(b9 rows 0 (some h)).length=h:=by rw[jT];simp;omega
 rw[Xa]at Fo WQ;have Xb:(h+E2.length)*i.bytes<=140737488355328:=abD (aaZ _ hle) kT;have cP:=oV (P:=P) (w:=w) (ty:=ty) ht wT hi Qi (a0:=Qg) (n1:=h) (c1:=kU) (n2:=E2.length) (src:=v2) (olds:=VU) (news:=Mq)
  (by rw[vL];rfl) (λk=>by rw[vL];exact F2.firstCells Mo k) (λk=>by have:=F1.firstCells (P:=P) kU k;rwa [Xa]at this) hb Xb
 obtain⟨r2,r3,r4,r5,Jq⟩:=hM.bk id _ db;obtain⟨aC,d1,d2,d3,d4,ad,Ql,vH⟩:=hd;rw[Ql]at Fo;injection Fo with q1 q2 q3
 simp only[acQ]at q3;have CA:h+E2.length<=kU:=by rw[<-q3];clear Jq;omega
 have tN:=vH (by clear Jq;omega)
 rw[if_pos CA]at cP;obtain⟨w',lV,jo,hX⟩:=tP (P:=P) hM (h:=h) (E:=E2) (vs:=Mq) db hle cI F2.lZ F2.len F2.one (λk cs j c hk hj=>by obtain⟨u,hu,cy⟩:=F2.jS k cs j c hk hj;exact⟨u,hu,cy.MH (qA kF hk hj)⟩)
 refine⟨.value (.slice Qg (h+E2.length) kU),_,w',.rv (.one (.row id i.size 0 (some (h+E2.length)))),_,ρ,?_,.inl rfl,hK,jo,?_,hX⟩
 .rw[Ql,q1,q2,show(ρ.aI (.aj id)).cap-0=kU by simpa using q3,Sem.run_bind,cP]
  rw[<-q1,tN];simp only[zE,mF,adJ,ac6];rw[lV];rfl
 .refine⟨aC,aaj _,?_,d3,d4,Qg,?_,λh0=>by rw[<-q1];exact vH h0⟩
  .show h+E2.length<=_;clear Jq;omega
  .simp only[abt,acQ];rw[q3]
theorem C8(hM:ay ρ m w){t ty e:TypeId}{i:TypeInfo}{z:List CC}{v:Value}{id lo hi:Nat}{rows:List (List CC)}(ht:P.underlying t=some (.slice e))(eO:P.info? e=some i)(hz:ek P e=some z)(dk:i.size=z.length)(hd:ce ρ w (.rv (.one (.row id i.size lo (some hi)))) v)(db:m[id]? =some (.row i.size rows))(iT:lo<hi)(hle:hi<=rows.length)(hK:K (.bD []) (m.set id (.row i.size (cU rows lo (gI (hi-lo) z))))):
  dd P (do pure (Next.value (<-Builtin.clear_ #[t] ty #[v]))) ρ m w K:=by
 have hid:id<m.length:=(Km.1 db).1;have EM:=hz;simp only[ek,U6,N7]at EM;obtain⟨i',fg,zv,Qi,Qe⟩:=EM;rw[eO]at fg;cases fg;obtain⟨hzl,Jv⟩:=ft (ρ:=ρ) (w:=w) Qe;have PW:zv.cells.size=z.length:=by simpa using hzl
 obtain⟨r2,r3,r4,r5,Jq⟩:=hM.bk id _ db;obtain⟨aC,d1,d2,d3,d4,ad,Ql,vH⟩:=hd;have tN:=vH (by clear Jq;omega)
 have hrl:(gI (hi-lo) z).length=hi-lo:=by rw[fY];simp
 obtain⟨w',lV,jo,hX⟩:=tP (P:=P) hM (h:=lo) (E:=gI (hi-lo) z) (vs:=(Builtin.zeroCells zv.cells (hi-lo)).toList) db (by rw[hrl];omega) om
  (λcs fe=>by rw[fY]at fe;rw[acM fe,dk]) (by rw[hrl,abR,size_zeroCells,PW,dk])
  (λu hu=>by
   rw[adK]at hu;simp only[Builtin.zeroCells,Array.mem_map]at hu;obtain⟨k,hk,rfl⟩:=hu;have hk:k<(hi-lo)*zv.cells.size:=by simpa using hk
   have hzp:0<zv.cells.size:=by
    rcases abi zv.cells.size with h0|h0
    .rw[h0]at hk;simp at hk
    .exact h0
   have hm:k%zv.cells.size<zv.cells.size:=Nat.mod_lt _ hzp;rw[PW]at hm;obtain⟨u,hu,cy⟩:=Jv _ _ (vU hm);have vK:zv.cells[k%zv.cells.size]? =some u:=by rw[PW];simpa using hu
   rw[getElem!_def,vK];exact cy.one)
  (λk cs j c hk hj=>by
   rw[fY]at hk;have kM:=(Km.1 hk).1;simp at kM;have fe:cs=z:=acM (Tp hk);subst fe;have y3:=(Km.1 hj).1;obtain⟨u,hu,cy⟩:=Jv j c hj;refine⟨u,?_,cy⟩;have aC:k*i.size+j<(hi-lo)*zv.cells.size:=by have:(k+1)*i.size<=(hi-lo)*i.size:=aaZ _ kM;rw[abf,ab3]at this;rw[PW,<-dk];omega
   simp only[Builtin.zeroCells,abq,adT,Array.getElem?_range];rw[if_pos aC];simp only[aaD,aav];have hm:(k*i.size+j)%zv.cells.size=j:=by rw[PW,dk,adw,aec,ad5 y3]
   rw[hm];have vK:zv.cells[j]? =some u:=by simpa using hu
   rw[getElem!_def,vK])
 refine⟨.value (.tuple #[]),_,w',.bD [],_,ρ,?_,.inl rfl,hK,jo,⟨[],rfl,rfl,λi r h=>by simp at h⟩,hX⟩
 have hn:hi-lo≠0:=om;simp only[abt]at Ql;rw[Ql,tN];obtain⟨n,PT⟩:∃n,hi-lo=n+1:=⟨hi-lo-1,om⟩;rw[PT]at lV|-;simp[Builtin.clear_,run_underlying ht,zeroValue,typeInfo,eO,Qi,lV]
theorem JF(hM:ay ρ m w)(hE:bl ρ w aX a.tmps){t t2 ty e e2:TypeId}{i:TypeInfo}{z:List CC}{x y:Operand}{x' y':X}(ht:P.underlying t=some (.slice e))(wT:P.underlying t2=some (.slice e2))(hi:P.info? e=some i)(hz:ek P e=some z)(dk:i.size=z.length)(cI:0<z.length)(hb:0<i.bytes)(hx:bn x=some x')(hy:bn y=some y')(h:step P (.pO i.size i.bytes x' y') aX m K):
  dd P (do pure (Next.value (<-Builtin.append_ #[t,t2] ty #[a.eval x,a.eval y]))) ρ m w K:=by
 simp only[step]at h;rcases cn.1 h with⟨zI,g1⟩|⟨_,g1⟩
 .exact Fm hM hE ht wT hi hz dk cI hb hx hy zI g1
 .have hd:=aR hE hx;have qx:=aR hE hy;split at g1
  .rename_i id e1 lo hh SB;rw[SB]at hd;obtain⟨bk,db,g2⟩:=aU.1 g1;rw[aT]at db;split at g2
   .rename_i e2' rows;obtain⟨E2,EP,g3⟩:=aU.1 g2;rcases cn.1 g3 with⟨hc,kT,hK⟩|⟨_,g4⟩
    case inr=>exact g4.elim
    simp only[aab,aa9]at hc;obtain⟨q1,q2,q3,c1,c2,c3⟩:=hc;have q1:=aai q1;have q2:=aai q2;have q3:=aai q3;subst q1 q2 q3;rw[aY]at hK;exact C7 hM ht wT hi hz dk hb hd qx db EP c1 c2 c3 kT hK
   .exact g2.elim
  .exact g1.elim
theorem JG(hM:ay ρ m w)(hE:bl ρ w aX a.tmps){t ty e:TypeId}{i:TypeInfo}{z:List CC}{x:Operand}{x':X}(ht:P.underlying t=some (.slice e))(hi:P.info? e=some i)(hz:ek P e=some z)(dk:i.size=z.length)(hx:bn x=some x')(h:step P (.VS i.size z x') aX m K):
  dd P (do pure (Next.value (<-Builtin.clear_ #[t] ty #[a.eval x]))) ρ m w K:=by
 have hd:=aR hE hx;simp only[step]at h;generalize a.eval x=v at hd|-;generalize x'.ev aX=c at hd h;have nothing:∀ad cap,v= .slice ad 0 cap->K (.bD []) m->dd P (do pure (Next.value (<-Builtin.clear_ #[t] ty #[v]))) ρ m w K:=by
  intro ad cap hv hK;refine⟨.value (.tuple #[]),_,w,.bD [],m,ρ,?_,.inl rfl,hK,hM,⟨[],rfl,rfl,λi r h=>by simp at h⟩,Ext.refl _ _ _⟩
  subst hv;cases ad<;>simp[Builtin.clear_,run_underlying ht]
 split at h
 .rename_i id e1 lo eO;obtain⟨bk,db,h⟩:=aU.1 h;rw[aT]at db;split at h
  .rename_i e2 rows;rcases cn.1 h with⟨hc,ir⟩|⟨_,ir⟩
   case inr=>exact ir.elim
   clear h;simp only[aab,aa9]at hc;obtain⟨q1,q2,hle⟩:=hc;have q1:=aai q1;have q2:=aai q2;subst q1 q2;obtain⟨r2,_⟩:=hM.bk id _ db;have yJ:ce ρ w (.rv (.one (.row id i.size lo (some (qU eO rows.length))))) v:=by
    obtain⟨d0,d1,d2,d3,d4,ad,hv,vH⟩:=hd;cases eO with
    |none=>
     simp only[adn]at d1 d2 hv;refine⟨d0,?_,?_,d3,d4,ad,?_,vH⟩<;>simp only[qU,abt,r2]
     .exact d1
     .exact Ym _
     .exact hv
    |some hh=>exact⟨d0,d1,d2,d3,d4,ad,hv,vH⟩
   rcases cn.1 ir with⟨aC,hK⟩|⟨d8,hK⟩
   .rw[aY]at hK;exact C8 hM ht hi hz dk yJ db (by simpa[abJ]using aC) hle hK
   .have d8:¬lo<qU eO rows.length:=λhh=>by rw[<-abJ,d8]at hh;cases hh
    obtain⟨d0,d1,d2,d3,d4,ad,hv,vH⟩:=yJ;simp only[abt]at hv;rw[show qU eO rows.length-lo=0 by omega]at hv
    exact nothing _ _ hv hK
  .exact h.elim
 .obtain⟨ad,hv⟩:=hd;exact nothing _ _ hv h
 .exact h.elim
theorem MI{c:CV}{v:Value}(hc:L8 c=true)(hd:ce ρ w c v):∃ad n cap,v= .slice ad n cap:=by
 unfold L8 at hc;split at hc;all_goals first
  |(cases hc;done)
  |(have hd:de _ _ _ _:=hd;cases hd<;>exact⟨_,_,_,rfl⟩)
  |(obtain⟨a,hv⟩:=hd;exact⟨_,_,_,hv⟩)
  |(obtain⟨_,_,_,_,_,a,hv,_⟩:=hd;exact⟨_,_,_,hv⟩)
theorem Fx(hM:ay ρ m w)(hE:bl ρ w aX a.tmps){t t2 ty e:TypeId}{i:TypeInfo}{z:List CC}{x y:Operand}{x' y':X}(ht:P.underlying t=some (.slice e))(hi:P.info? e=some i)(hz:ek P e=some z)(dk:i.size=z.length)(hx:bn x=some x')(hy:bn y=some y')(h:step P (.copy i.size x' y') aX m K):
  dd P (do pure (Next.value (<-Builtin.copy_ #[t,t2] ty #[a.eval x,a.eval y]))) ρ m w K:=by
 have hd:=aR hE hx;have qx:=aR hE hy;simp only[step]at h;generalize a.eval x=v at hd|-;generalize a.eval y=v2 at qx|-;generalize x'.ev aX=c at hd h;generalize y'.ev aX=c2 at qx h;obtain⟨E,EP,h⟩:=aU.1 h;obtain⟨ad2,Mo,Mq,vL,WR,WS,F2⟩:=nO hM EP qx;have hn:=F2.firstCells (P:=P) Mo 0;rw[show w.drewN 0=w from rfl]at hn;have h':=h;clear h;rcases cn.1 h' with⟨h0,g⟩|⟨h0,g⟩
 .have h0:E.length=0:=aai h0;rcases cn.1 g with⟨hs,hK⟩|⟨_,g⟩
  case inr=>exact g.elim
  obtain⟨ad,n,cap,hv⟩:=MI hs hd;have yZ:Mq=[]:=aag (by rw[F2.len,h0,adJ])
  rw[h0]at hn vL;rw[yZ]at hn;refine⟨.value (goInt 0),_,w,am .i64 0,m,ρ,?_,.inl rfl,hK,hM,de.val (.int .i64 0) rfl,Ext.refl _ _ _⟩;subst hv vL;cases ad<;>simp[Builtin.copy_,run_underlying ht,Builtin.lenOf,sizeOf,typeInfo,hi,hn,storeCells]
 .split at g
  .clear h';rename_i rid e1 lo eO;obtain⟨bk,db,g⟩:=aU.1 g;rw[aT]at db;split at g
   .rename_i e2 rows;rcases cn.1 g with⟨hc,hK⟩|⟨_,g⟩
    case inr=>exact g.elim
    clear g;simp only[aab,aa9]at hc;obtain⟨q1,q2,hle,kT,kF⟩:=hc;have q1:=aai q1;have q2:=aai q2;subst q1 q2;have cI:0<E.length:=by
     rcases abi E.length with e0|e0
     .rw[e0]at h0;cases h0
     .exact e0
    obtain⟨r2,r3,_⟩:=hM.bk rid _ db;have yJ:ce ρ w (.rv (.one (.row rid i.size lo (some (qU eO rows.length))))) v:=by
     obtain⟨d0,d1,d2,d3,d4,ad,hv,vH⟩:=hd;cases eO with
     |none=>
      simp only[adn]at d1 d2 hv;refine⟨d0,?_,?_,d3,d4,ad,?_,vH⟩<;>simp only[qU,abt,r2]
      .exact d1
      .exact Ym _
      .exact hv
     |some hh=>exact⟨d0,d1,d2,d3,d4,ad,hv,vH⟩
    obtain⟨w',lV,jo,hX⟩:=tP (P:=P) hM (h:=lo) (E:=E) (vs:=Mq) db om om F2.lZ F2.len F2.one (λk cs j c hk hj=>by obtain⟨u,hu,cy⟩:=F2.jS k cs j c hk hj;exact⟨u,hu,cy.MH (qA kF hk hj)⟩)
    rw[aY]at hK;obtain⟨d0,d1,d2,d3,d4,ad,hv,vH⟩:=yJ;simp only[abt]at hv d2;have tN:=vH om;have aaH:Nat.min E.length (qU eO rows.length-lo)=E.length:=ads om;refine⟨.value (goInt E.length),_,w',am .i64 (E.length:Int),_,ρ,?_,.inl rfl,hK,jo,de.val (.int .i64 (E.length:Int)) rfl,hX⟩;subst hv vL tN;simp[Builtin.copy_,run_underlying ht,Builtin.lenOf,sizeOf,typeInfo,hi,hn,aaH,lV]
   .exact g.elim
  .exact g.elim
theorem Fy(hM:ay ρ m w)(hE:bl ρ w aX a.tmps){t e:TypeId}{n sz:Nat}{agg:Bool}{x k:Operand}{x' k':X}(hu:P.underlying t=some (.array n e))(ha:ec P e=some agg)(hs:eL P e=some sz)(hx:bn x=some x')(hk:bn k=some k')(h:step P (.L5 agg n sz x' k') aX m K):dd P (do pure (Next.value (<-Instr.index t (a.eval x) (a.eval k)))) ρ m w K:=by
 have hd:=aR hE hx;have y4:=aR hE hk;simp only[step]at h;generalize a.eval x=v at hd|-;generalize a.eval k=vk at y4|-;generalize x'.ev aX=c at hd h;generalize k'.ev aX=ck at y4 h;split at h
 .rename_i kd j;obtain⟨rfl,_⟩:=bF y4;split at h
  .rename_i cs;obtain⟨vs,rfl,hl,hc⟩:=hd;obtain⟨kk,u9,g1⟩:=aU.1 h;obtain⟨hj,aC⟩:=mZ u9;obtain⟨l,hr,g2⟩:=aU.1 g1;obtain⟨cv,hm,hK⟩:=aU.1 g2;clear h g1 g2;subst hj;obtain⟨u,cP,cy⟩:=CY (w:=w) ha hs (cells:=vs.toArray) ⟨by simpa using hl,λi c hi=>by simpa using hc i c hi⟩ hr hm
   refine dd.pure hM (v:=u) ?_ hK cy;have h1:(0:Int)<=(kk:Int)/\(kk:Int)<(n:Int):=om;simp[Instr.index,asIntOf,run_underlying hu,h1,fq hs,aC,cP]
  .exact h.elim
 .exact h.elim
theorem r9(hM:ay ρ m w)(hE:bl ρ w aX a.tmps){mx:Bool}{ts:Array TypeId}{ty:TypeId}{x y:Operand}{x' y':X}(hx:bn x=some x')(hy:bn y=some y')(h:step P (.kq mx [x',y']) aX m K):dd P (do pure (Next.value (<-(if mx then Builtin.max_ ts ty #[a.eval x,a.eval y]else Builtin.min_ ts ty #[a.eval x,a.eval y])))) ρ m w K:=by
 have hd:=aR hE hx;have qx:=aR hE hy;simp only[step]at h;generalize a.eval x=v at hd|-;generalize a.eval y=u at qx|-;generalize x'.ev aX=c at hd h;generalize y'.ev aX=d at qx h;split at h
 .rename_i k p;obtain⟨rfl,_⟩:=bF hd;split at h
  .rename_i k2 q;obtain⟨rfl,_⟩:=bF qx;cases mx
   .refine dd.pure hM (v:= .int k (if q<p then q else p)) ?_ h (cA rfl)
    simp[Builtin.min_,Builtin.min2]
   .refine dd.pure hM (v:= .int k (if q>p then q else p)) ?_ h (cA rfl)
    simp[Builtin.max_,Builtin.max2]
  .exact h.elim
 .exact h.elim
theorem JH(hM:ay ρ m w)(hE:bl ρ w aX a.tmps){s e e2:TypeId}{x:Operand}{x':X}(hs:P.underlying s=some (.slice e))(he:P.underlying e=some (.int .u8))(hx:bn x=some x')(h:step P (.Zr x') aX m K):dd P (do pure (Next.value (<-convert s s (a.eval x)))) ρ m w K:=by
 have hd:=aR hE hx;simp only[step]at h;generalize a.eval x=v at hd|-;generalize x'.ev aX=c at hd h;split at h
 .rename_i id e1 lo hi;obtain⟨bk,db,g1⟩:=aU.1 h;rw[aT]at db;split at g1
  .rename_i esz rows;rcases cn.1 g1 with⟨aC,hK⟩|⟨_,g2⟩
   case inr=>exact g2.elim
   rw[aab,abJ]at aC;obtain⟨oh,aC⟩:=aC;have oh:=aai oh;have hid:id<m.length:=(Km.1 db).1;have T1:=hd;obtain⟨d0,d1,d2,d3,d4,ad,hv,vH⟩:=hd;obtain⟨r2,r3,r4,r5,Jq⟩:=hM.bk id _ db;have be:0<(ρ.aI (.aj id)).cap:=by clear Jq;omega
   obtain⟨cur,bX,h1,cq⟩:=Jq be;have tN:=vH (by clear Jq;omega)
   obtain⟨ty,fr,eF,va,kF,_⟩:=bX;have Qt:=(aaC.1 eF).1;let Xc:Nat×Nat:=if fr.1==fr.2 then(cur.size,cur.size+1)else(min fr.1 cur.size,max fr.2 (cur.size+1))
   let w':World:=w.freeze ⟨(ρ.aI (.aj id)).b,cur.size,none⟩ 1;have Uh:w'.heap[(ρ.aI (.aj id)).b]? =some (.cells cur ty Xc):=by simp[w',World.freeze,aba,eF,Xc]
   have C9:mE (esz=1) w' (ρ.aI (.aj id)).b cur:=by
    refine⟨ty,Xc,Uh,?_,λi hi=>?_,.inl oh⟩
    .simp only[Xc];split
     .simp
     .simp only;omega
    .simp only[Xc];split
     .simp;omega
     .rename_i dh;have dh:fr.1≠fr.2:=by simpa using dh
      have h0:cur.size<=fr.1:=by
       rcases aaf fr.1 cur.size with q|q
       .have:=kF fr.1 q;simp at this;omega
       .exact q
      simp;omega
   have ht:eV w w' (ρ.aI (.aj id)).b:=⟨λb hb=>by simp[w',World.freeze,aba,Ne.symm hb],by simp[w',World.freeze],by simp[w',World.freeze],by simp[w',World.freeze],by simp[w',World.freeze]⟩
   obtain⟨jo,hX⟩:=hM.Ly (zw:= .row esz rows) db ⟨_,db,aE,λ_=>be⟩ ht (λg=>⟨r2,r3,r4,r5,λ_=>⟨cur,C9,h1,λi cs j c hi hj=>by
    obtain⟨u,hu,cy⟩:=cq i cs j c hi hj;exact⟨u,hu,cy.cm g (by rintro _ _ _ e;cases e;exact d0)⟩⟩⟩) (by
    rintro i' j' rQ e ⟨b2,fI,ia⟩;rw[TH hid]at fI;cases fI;exact⟨_,db,ia⟩)
   have jC:m.set id (.row esz rows)=m:=by
    apply abr;intro i;rw[aaW];split
    .rename_i hi;subst hi
     first|rw[db]|rw[if_pos hid,db]
    .rfl
   rw[jC]at jo hX;refine⟨.value v,v,w',_,m,ρ,?_,.inl rfl,hK,jo,T1,hX⟩;have hsh:w.shape? (ρ.aI (.aj id)).b=some (ty,cur.size):=by unfold World.shape?;rw[eF]
   rw[hv,tN];simp[convert,run_underlying hs,run_underlying he,markStringish,hsh];rfl
  .exact g1.elim
 .exact h.elim
end
section
variable {P:Program} {ρ:bI} {m:Mem} {w:World} {aX:List CV} {a:Act} {K:CV->Mem->Prop}
theorem bl.ext{U':bI}{m':Mem}{w':World}{tmps:Array Value}(hM:ay ρ m w)(x:Ext ρ m w U' m' w')(hE:bl ρ w aX tmps):bl U' w' aX tmps:=
 ⟨hE.size,λi c hi=>let⟨v,hv,hd⟩:=hE.jS i c hi;⟨v,hv,ce.ext hM x hd⟩⟩
theorem bl.set{tmps:Array Value}{d:Nat}{c:CV}{v:Value}(hE:bl ρ w aX tmps)(hd:ce ρ w c v):bl ρ w (aX.set d c) (tmps.setIfInBounds d v):=by
 refine⟨by simp[hE.size],λi c' hi=>?_⟩
 by_cases h:d=i
 .subst h;have aC:d<aX.length:=by
   rcases aaf d aX.length with h|h
   .exact h
   .rw[aaE (by simpa using h)]at hi;cases hi
  rw[TH aC]at hi;cases hi;exact⟨v,by rw[ab7];simp[hE.size,aC],hd⟩
 .rw[U7 h]at hi;obtain⟨u,hu,cy⟩:=hE.jS i c' hi;exact⟨u,by rw[ab7,if_neg h];exact hu,cy⟩
theorem MJ{d:Option Nat}{v:CV}{e:List CV}{K:List CV->Prop}:put d v e K=match d with|none=>K e|some d=>K (e.set d v):=by
 cases d with
 |none=>rfl
 |some d=>simp only[put,WA,fp,aY]
theorem bl.put{d:Option Nat}{c:CV}{v:Value}(hE:bl ρ w aX a.tmps)(hd:ce ρ w c v){K:List CV->Prop}(h:put d c aX K):
  ∃fP,K fP/\bl ρ w fP (a.put d v).tmps/\(a.put d v).defers=a.defers:=by
 rw[MJ]at h;cases d with
 |none=>exact⟨aX,h,hE,rfl⟩
 |some d=>exact⟨_,h,hE.set hd,rfl⟩
theorem Fz{o:Oper}{i:I}(hl:wG P o=some i)(vd:∀f xs ts,o.op≠.call {callee:= .value f,args:=xs,argTypes:=ts})(hM:ay ρ m w)(hE:bl ρ w aX a.tmps)(h:step P i aX m K):dd P (execOp a.eval o) ρ m w K:=by
 unfold wG at hl;cases dA:o.op;all_goals rw[dA]at hl
 all_goals try(simp only at hl;cases hl;done)
 case move x=>
  simp only[U6,N7]at hl;obtain⟨x',hx,hl⟩:=hl;cases hl;unfold execOp;rw[dA];exact dd.pure hM rfl h (aR hE hx)
 case assign x=>
  simp only[U6,N7]at hl;obtain⟨x',hx,hl⟩:=hl;cases hl;unfold execOp;rw[dA];exact dd.pure hM rfl h (aR hE hx)
 case pick c x y=>
  simp only[U6,N7]at hl;obtain⟨c',hc,x',hx,y',hy,hl⟩:=hl;cases hl;unfold execOp;rw[dA];exact Fi hM hE hc hx hy h
 case alloc t=>
  simp only[U6,N7]at hl;obtain⟨z,hz,hl⟩:=hl;cases hl;unfold execOp;rw[dA];exact CT hM hz h
 case box t x=>
  simp only[U6,N7]at hl;obtain⟨x',hx,hl⟩:=hl;cases hl;unfold execOp;rw[dA];exact Ji hM hE hx h
 case build t ps=>
  simp only[U6,N7]at hl;obtain⟨z,hz,hl⟩:=hl;unfold execOp;rw[dA];split at hl
  .rename_i fs hu;split at hl
   .rename_i f8;simp only[N7]at hl;obtain⟨oH,hp,hl⟩:=hl;cases hl;exact uX hM hE hz (.inl ⟨fs,hu,f8,hp⟩) h
   .cases hl
  .rename_i n e hu;simp only[N7]at hl;obtain⟨sz,hs,oH,hp,hl⟩:=hl;cases hl;exact uX hM hE hz (.inr ⟨n,e,sz,hu,hs,hp⟩) h
  .cases hl
 case buildSlice t n ps=>
  simp only[U6]at hl;unfold execOp;rw[dA];split at hl
  .rename_i e hu;simp only[N7]at hl;obtain⟨z,hz,sz,hs,hl⟩:=hl;split at hl
   .rename_i hc;obtain⟨rfl,h2,h3⟩:=hc;simp only[N7]at hl;obtain⟨oH,hp,hl⟩:=hl;cases hl;exact Jo hM hE hu hz hs h2 h3 hp h
   .cases hl
  .cases hl
 case load t x=>
  simp only[U6,N7]at hl;obtain⟨agg,ha,n,hs,x',hx,hl⟩:=hl;cases hl;unfold execOp;rw[dA];exact Fc hM hE ha hs hx h
 case store t p x=>
  simp only[U6,N7]at hl;obtain⟨n,hs,hl⟩:=hl;split at hl
  .cases hl
  .rename_i hn;simp only[N7]at hl;obtain⟨p',hp,x',hx,hl⟩:=hl;cases hl;unfold execOp;rw[dA];exact CX hM hE hs hn hp hx h
 case fieldAddr t x k=>
  simp only[U6]at hl;unfold execOp;rw[dA];split at hl
  .rename_i fs hu;simp only[N7]at hl;obtain⟨f,hf,n,hs,hl⟩:=hl;split at hl
   .cases hl
   .rename_i hn;simp only[N7]at hl;obtain⟨x',hx,hl⟩:=hl;cases hl;exact Fd hM hE hu hf hs hn hx h
  .cases hl
 case field t x k=>
  simp only[U6]at hl;unfold execOp;rw[dA];split at hl
  .rename_i fs hu;simp only[N7]at hl;obtain⟨f,hf,agg,ha,n,hs,x',hx,hl⟩:=hl;cases hl;exact Jk hM hE hu hf ha hs hx h
  .cases hl
 case indexAddr t x k=>
  simp only[U6]at hl;unfold execOp;rw[dA];split at hl
  .rename_i e hu;simp only[N7]at hl;obtain⟨n,hs,x',hx,k',hk,hl⟩:=hl;cases hl;exact Jl hM hE hu hs hx hk h
  .rename_i len e hu;simp only[N7]at hl;obtain⟨n,hs,x',hx,k',hk,hl⟩:=hl;cases hl;exact Fe hM hE hu hs hx hk h
  .cases hl
 case index t x k=>
  simp only[U6]at hl;unfold execOp;rw[dA];split at hl
  .rename_i hu;simp only[N7]at hl;obtain⟨x',hx,k',hk,hl⟩:=hl;cases hl;exact Ff hM hE hu hx hk h
  .rename_i n e hu;simp only[N7]at hl;obtain⟨agg,ha,sz,hs,x',hx,k',hk,hl⟩:=hl;cases hl;exact Fy hM hE hu ha hs hx hk h
  .cases hl
 case binOp op t x y yt=>
  simp only[U6]at hl;unfold execOp;rw[dA];split at hl
  .simp only[N7]at hl;obtain⟨x',hx,y',hy,hl⟩:=hl;cases hl;exact zy hM hE hx hy h
  .simp only[N7]at hl;obtain⟨x',hx,y',hy,hl⟩:=hl;cases hl;exact zy hM hE hx hy h
  .rename_i e hu;split at hl
   .simp only[N7]at hl;obtain⟨x',hx,hl⟩:=hl;cases hl;exact wW (neg:=false) hM hE hu hx h
   .simp only[N7]at hl;obtain⟨x',hx,hl⟩:=hl;cases hl;exact wW (neg:=true) hM hE hu hx h
   .cases hl
  .rename_i hu;split at hl
   .simp only[N7]at hl;obtain⟨x',hx,y',hy,hl⟩:=hl;cases hl;exact zA (neg:=false) hM hE hu hx hy h
   .simp only[N7]at hl;obtain⟨x',hx,y',hy,hl⟩:=hl;cases hl;exact zA (neg:=true) hM hE hu hx hy h
   .cases hl
  .rename_i n e hu;split at hl
   .rename_i kk hg hue hs;simp only[N7]at hl;obtain⟨x',hx,y',hy,hl⟩:=hl;cases hl;exact wQ (neg:=false) hM hE hu hg hue hs hx hy h
   .rename_i kk hg hue hs;simp only[N7]at hl;obtain⟨x',hx,y',hy,hl⟩:=hl;cases hl;exact wQ (neg:=true) hM hE hu hg hue hs hx hy h
   .cases hl
  .rename_i fs hu;split at hl
   .rename_i ks hg hk;simp only[N7]at hl;obtain⟨x',hx,y',hy,hl⟩:=hl;cases hl;exact zC (neg:=false) hM hE hu hg hk hx hy h
   .rename_i ks hg hk;simp only[N7]at hl;obtain⟨x',hx,y',hy,hl⟩:=hl;cases hl;exact zC (neg:=true) hM hE hu hg hk hx hy h
   .cases hl
  .cases hl
 case unOp op t x=>
  simp only[U6,N7]at hl;obtain⟨x',hx,hl⟩:=hl;cases hl;unfold execOp;rw[dA];exact Mi hM hE hx h
 case convert s d x=>
  simp only[U6]at hl;unfold execOp;rw[dA];split at hl
  .rename_i hs hd;simp only[N7]at hl;obtain⟨x',hx,hl⟩:=hl;cases hl;exact Fg hM hE hs hd hx h
  .rename_i hs hd;simp only[N7]at hl;obtain⟨x',hx,hl⟩:=hl;cases hl;exact Jm hM hE hs hd hx h
  .rename_i e hs hd;split at hl
   .rename_i he;simp only[N7]at hl;obtain⟨x',hx,hl⟩:=hl;cases hl;exact Jt hM hE hs he hd hx h
   .cases hl
  .rename_i e hs hd;split at hl
   .rename_i he;simp only[N7]at hl;obtain⟨x',hx,hl⟩:=hl;cases hl;exact Ju hM hE hs hd he hx h
   .cases hl
  .rename_i e0 e hs hd;split at hl
   .rename_i hsd he;simp only[N7]at hl;obtain⟨x',hx,hl⟩:=hl;cases hl;have hsd:s=d:=by simpa using hsd
    subst hsd;rw[hs]at hd;cases hd;exact JH (e2:=e0) hM hE hs he hx h
   .cases hl
  .cases hl
 case range t x=>
  dsimp only at hl;unfold execOp;rw[dA];split at hl
  .rename_i kt vt hu;simp only[U6,N7]at hl;obtain⟨x',hx,hl⟩:=hl;cases hl;exact JB hM hE hu hx h
  .cases hl
 case next it b=>
  cases b with
  |false=>
   simp only[U6,N7]at hl;unfold execOp;rw[dA];obtain⟨x',hx,hl⟩:=hl;cases hl;exact JD hM hE hx h
  |true=>cases hl
 case entry it=>
  simp only[U6,N7]at hl;unfold execOp;rw[dA];obtain⟨x',hx,hl⟩:=hl;cases hl;exact JE hM hE hx h
 case makeMap t r=>
  dsimp only at hl;unfold execOp;rw[dA];split at hl
  .cases hl;exact u5 hM (.inl rfl) h
  .rename_i k n kt et hu;cases hl;exact u5 hM (.inr ⟨k,n,kt,et,rfl,hu⟩) h
  .cases hl
 case makeSlice t l c=>
  simp only[U6]at hl;unfold execOp;rw[dA];split at hl
  .rename_i e hu;simp only[N7]at hl;obtain⟨i,hi,z,hz,hl⟩:=hl;split at hl
   .rename_i hc;obtain⟨h1,h2,h3⟩:=hc;simp only[N7]at hl;obtain⟨l',A2,c',rT,hl⟩:=hl;cases hl;exact yY hM hE hu hi hz h1 h2 h3 A2 rT h
   .cases hl
  .cases hl
 case lookup t x k b=>
  simp only[U6]at hl;unfold execOp;rw[dA];split at hl
  .rename_i kt vt hu;simp only[N7]at hl;obtain⟨z,hz,kk,hk,x',hx,k',MB,hl⟩:=hl;cases hl;exact Fv hM hE hu hz hk hx MB h
  .cases hl
 case mapUpdate t x k v=>
  simp only[U6]at hl;unfold execOp;rw[dA];split at hl
  .rename_i kt vt hu;simp only[N7]at hl;obtain⟨kk,hk,x',hx,k',MB,v',hv,hl⟩:=hl;cases hl;exact w9 hM hE hu hk hx MB hv h
  .cases hl
 case insert t x k v=>
  simp only[U6]at hl;unfold execOp;rw[dA];split at hl
  .rename_i kt vt hu;simp only[N7]at hl;obtain⟨kk,hk,x',hx,k',MB,v',hv,hl⟩:=hl;cases hl;exact w9 hM hE hu hk hx MB hv h
  .cases hl
 case makeFunc fn fst eE=>
  unfold execOp;rw[dA];cases fn<;>simp only at hl<;>try(cases hl;done)
  rename_i f;split at hl
  .rename_i hz;simp only[U6,N7]at hl;obtain⟨x',hx,hl⟩:=hl;cases hl;have hf:fst= #[]:=Array.eq_empty_of_size_eq_zero hz;subst hf;exact Mj hM hE hx h
  .cases hl
 case extract x k=>
  simp only[U6,N7]at hl;obtain⟨x',hx,hl⟩:=hl;cases hl;unfold execOp;rw[dA];exact Jn hM hE hx h
 case slice t x lo hi mx=>
  simp only[U6]at hl;unfold execOp;rw[dA];split at hl
  .rename_i e hu;simp only[N7]at hl;obtain⟨n,hs,x',hx,Fq,iT,eO,A0,mx',PU,hl⟩:=hl;cases hl;exact Jr hM hE hu hs hx iT A0 PU h
  .rename_i hu;cases mx<;>simp only at hl
   .simp only[N7]at hl;obtain⟨x',hx,Fq,iT,eO,A0,hl⟩:=hl;cases hl;exact Fp hM hE hu hx iT A0 h
   .cases hl
  .cases hl
 case nilCheck x=>
  simp only[U6,N7]at hl;obtain⟨x',hx,hl⟩:=hl;cases hl;exact Fh hM hE dA hx h
 case call c=>
  obtain⟨callee,args,argTypes⟩:=c;cases callee with
  |value f=>
   exact absurd dA (vd _ _ _)
  |invoke r n=>simp only at hl;cases hl
  |builtin b=>
   cases b<;>simp only at hl<;>try(cases hl;done)
   case len=>
    simp only[U6]at hl;split at hl
    .rename_i x t eX A4;have e1:args= #[x]:=abZ (by simpa using eX)
     have e2:argTypes= #[t]:=abZ (by simpa using A4)
     subst e1 e2;unfold execOp;rw[dA];split at hl
     .rename_i hu;simp only[N7]at hl;obtain⟨x',hx,hl⟩:=hl;cases hl;have:=tJ (ty:=o.type) hM hE (.inl ⟨rfl,hu⟩) hx h;unfold dd at this|-;simpa[resolve,invoke,builtin]using this
     .rename_i e hu;simp only[N7]at hl;obtain⟨x',hx,hl⟩:=hl;cases hl;have:=tJ (ty:=o.type) hM hE (.inr (.inl ⟨rfl,e,hu⟩)) hx h;unfold dd at this|-;simpa[resolve,invoke,builtin]using this
     .rename_i kt e hu;simp only[N7]at hl;obtain⟨x',hx,hl⟩:=hl;cases hl;have:=tJ (ty:=o.type) hM hE (.inr (.inr ⟨rfl,kt,e,hu⟩)) hx h;unfold dd at this|-;simpa[resolve,invoke,builtin]using this
     .cases hl
    .cases hl
   case append=>
    simp only[U6]at hl;split at hl
    .rename_i x y t t2 eX A4;have e1:args= #[x,y]:=abZ (by simpa using eX)
     have e2:argTypes= #[t,t2]:=abZ (by simpa using A4)
     subst e1 e2;unfold execOp;rw[dA];split at hl
     .rename_i e e2 hu WE;simp only[N7]at hl;obtain⟨i,hi,z,hz,hl⟩:=hl;split at hl
      .rename_i hc;obtain⟨h1,h2,h3⟩:=hc;simp only[N7]at hl;obtain⟨x',hx,y',hy,hl⟩:=hl;cases hl;have:=JF (ty:=o.type) hM hE hu WE hi hz h1 h2 h3 hx hy h;unfold dd at this|-;simpa[resolve,invoke,builtin]using this
      .cases hl
     .cases hl
    .cases hl
   case min=>
    simp only[U6]at hl;split at hl
    .rename_i x y eX;have e1:args= #[x,y]:=abZ (by simpa using eX)
     subst e1;unfold execOp;rw[dA];simp only[N7]at hl;obtain⟨x',hx,y',hy,hl⟩:=hl;cases hl;have:=r9 (mx:=false) (ts:=argTypes) (ty:=o.type) hM hE hx hy h;unfold dd at this|-;simpa[resolve,invoke,builtin]using this
    .cases hl
   case max=>
    simp only[U6]at hl;split at hl
    .rename_i x y eX;have e1:args= #[x,y]:=abZ (by simpa using eX)
     subst e1;unfold execOp;rw[dA];simp only[N7]at hl;obtain⟨x',hx,y',hy,hl⟩:=hl;cases hl;have:=r9 (mx:=true) (ts:=argTypes) (ty:=o.type) hM hE hx hy h;unfold dd at this|-;simpa[resolve,invoke,builtin]using this
    .cases hl
   case copy=>
    simp only[U6]at hl;split at hl
    .rename_i x y t t2 eX A4;have e1:args= #[x,y]:=abZ (by simpa using eX)
     have e2:argTypes= #[t,t2]:=abZ (by simpa using A4)
     subst e1 e2;unfold execOp;rw[dA];split at hl
     .rename_i e hu;simp only[N7]at hl;obtain⟨i,hi,z,hz,hl⟩:=hl;split at hl
      .rename_i hc;simp only[N7]at hl;obtain⟨x',hx,y',hy,hl⟩:=hl;cases hl;have:=Fx (ty:=o.type) (t2:=t2) hM hE hu hi hz hc hx hy h;unfold dd at this|-;simpa[resolve,invoke,builtin]using this
      .cases hl
     .cases hl
    .cases hl
   case clear=>
    simp only[U6]at hl;split at hl
    .rename_i x t eX A4;have e1:args= #[x]:=abZ (by simpa using eX)
     have e2:argTypes= #[t]:=abZ (by simpa using A4)
     subst e1 e2;unfold execOp;rw[dA];split at hl
     .rename_i e hu;simp only[N7]at hl;obtain⟨i,hi,z,hz,hl⟩:=hl;split at hl
      .rename_i hc;simp only[N7]at hl;obtain⟨x',hx,hl⟩:=hl;cases hl;have:=JG (ty:=o.type) hM hE hu hi hz hc hx h;unfold dd at this|-;simpa[resolve,invoke,builtin]using this
      .cases hl
     .cases hl
    .cases hl
   case delete=>
    simp only[U6]at hl;split at hl
    .rename_i x y t r eX A4;have e1:args= #[x,y]:=abZ (by simpa using eX)
     have e2:argTypes[0]? =some t:=by rw[<-abq,A4];rfl
     subst e1;unfold execOp;rw[dA];split at hl
     .rename_i kt et hu;simp only[N7]at hl;obtain⟨kk,hk,x',hx,y',hy,hl⟩:=hl;cases hl;have:=Fw (t2:=o.type) (ats:=argTypes) hM hE e2 hu hk hx hy h;unfold dd at this|-;simpa[resolve,invoke,builtin]using this
     .cases hl
    .cases hl
end
section
variable {P:Program}
def Da:Exit->Option Ex
 | .normal=>some .normal
 | .exit id=>some (.exit id)
 | .ret=>some .ret
 |_=>none
def FA(N:Nat)(ρ:bI)(w:World)(ds:List Deferred):Prop:=
 ∃Ds:List Nat,ds=Ds.map (λD=>{target:= .collected D,args:= #[]})/\Ds.Nodup/\∀D,D∈Ds->N<=D/\ρ.S D/\w.heap[D]? =some (.deferred (some []))
theorem FA.nil{N:Nat}{ρ:bI}{w:World}:FA N ρ w []:=⟨[],rfl,List.nodup_nil,aE⟩
theorem FA.ext{N:Nat}{ρ U':bI}{m m':Mem}{w w':World}{ds:List Deferred}(hM:ay ρ m w)(x:Ext ρ m w U' m' w')(h:FA N ρ w ds):FA N U' w' ds:=by
 obtain⟨Ds,h1,h2,h3⟩:=h;refine⟨Ds,h1,h2,λD hD=>?_⟩
 obtain⟨g1,g2,g3⟩:=h3 D hD;exact⟨g1,x.S D g2,(x.frame D (hM.S D g2) λk hk e=>(hM.aL k hk).2 (e▸g2)).trans g3⟩
theorem FA.s{N:Nat}{ρ U':bI}{w:World}{ds:List Deferred}(hS:∀b,ρ.S b->U'.S b)(h:FA N ρ w ds):FA N U' w ds:=by obtain⟨Ds,h1,h2,h3⟩:=h;exact⟨Ds,h1,h2,λD hD=>⟨(h3 D hD).1,hS D (h3 D hD).2.1,(h3 D hD).2.2⟩⟩
structure Inv(N:Nat)(ρ0:bI)(m0:Mem)(w0:World)(st:St)(ρ:bI)(a:Act)(w:World):Prop where
 ext:Ext ρ0 m0 w0 ρ st.mem w
 mem:ay ρ st.mem w
 aX:bl ρ w st.aX a.tmps
 defers:FA N ρ w a.defers
 hN:N<=w0.heap.size
 n0:m0.length<=st.mem.length
def A5(N:Nat)(ρ0:bI)(m0:Mem)(w0:World)(K:Ex->St->Prop)(e:Exit)(a:Act)(w:World):Prop:=
 ∃ex st ρ,Da e=some ex/\K ex st/\Inv N ρ0 m0 w0 st ρ a w
variable {N:Nat} {ρ0:bI} {m0:Mem} {w0:World}
theorem Inv.step{aX:List CV}{m m':Mem}{ρ U':bI}{a:Act}{w w':World}{d:Option Nat}{c:CV}{v:Value}(h:Inv N ρ0 m0 w0 ⟨aX,m⟩ ρ a w)(hM:ay U' m' w')(hd:ce U' w' c v)(hx:Ext ρ m w U' m' w'){K:List CV->Prop}(hp:put d c aX K):
  ∃fP,K fP/\Inv N ρ0 m0 w0 ⟨fP,m'⟩ U' (a.put d v) w':=by
 obtain⟨fP,hK,hE,hdf⟩:=(h.aX.ext h.mem hx:bl U' w' aX a.tmps).put hd hp;refine⟨fP,hK,h.ext.trans hx,hM,hE,hdf▸h.defers.ext h.mem hx,h.hN,?_⟩;have h1:=h.n0;have h2:=h.mem.n;have h3:=hM.n;have h4:=hx.n;simp only at h1 h2|-;omega
theorem Db{o:Oper}{i:I}{aX:List CV}{m:Mem}{ρ:bI}{a:Act}{w:World}{K:List CV->Mem->Prop}{next:Act->World->Prop}{Q:Exit->Act->World->Prop}(hl:tF P o=some i)(h:Inv N ρ0 m0 w0 ⟨aX,m⟩ ρ a w)(hs:step P i aX m λv m'=>put o.dst v aX λe'=>K e' m')(hn:∀fP m' U' a' w',K fP m'->Inv N ρ0 m0 w0 ⟨fP,m'⟩ U' a' w'->next a' w'):o.wp P a w next Q:=by
 rcases E6 hl with hl|rfl
 case inr=>rw[Qa]at hs;exact hs.elim
 by_cases hc:∃f xs ts,o.op= .call {callee:= .value f,args:=xs,argTypes:=ts}
 .obtain⟨f,xs,ts,dA⟩:=hc;have W5:∃f' HL,i= .call f' HL/\bn f=some f'/\uS xs.toList=some HL:=by unfold wG at hl;rw[dA]at hl;simp only[U6,N7]at hl;obtain⟨f1,hf,xs1,hx,hl⟩:=hl;cases hl;exact⟨f1,xs1,rfl,hf,hx⟩
  obtain⟨f',HL,rfl,hf,hx⟩:=W5;have hd:=aR h.aX hf;simp only[step]at hs;split at hs
  .rename_i g eE hfe;rw[hfe]at hd;obtain⟨MK,hv⟩:=hd;obtain⟨⟨fn,hfn,SJ,HU⟩,vd⟩:=hs;obtain⟨e1,e2⟩:=tI h.aX hx;simp only[cg,wP]at vd;have hb:fn.body≠none:=by intro e;rw[e]at SJ;cases SJ
   have ML:fn.name≠ "runtime.NumGoroutine" :=by intro e;rw[e]at HU;simp at HU
   have cP:(execOp a.eval o).run P w= .ok (.enter g (xs.map a.eval++(eE.map λid=>Value.pointer (some ⟨(ρ.aI (.aj id)).b,(ρ.aI (.aj id)).aq,none⟩)).toArray)) w:=by unfold execOp;rw[dA];simp[resolve,hv,Deferred.ofValue,invoke,callFunc,hfn,ML,hb]
   unfold Oper.wp;rw[cP,Oper.upon_enter];have A6:=vd ρ w (xs.toList.map a.eval++eE.map λid=>Value.pointer (some ⟨(ρ.aI (.aj id)).b,(ρ.aI (.aj id)).aq,none⟩)) h.mem (by simp[e1]) (λi c hi=>by
    rcases aaf i (Hx aX HL).length with aC|d8
    .rw[aac aC]at hi;obtain⟨v,vL,yJ⟩:=e2 i c hi;exact⟨v,by rw[aac (by simpa[e1]using aC)];exact vL,yJ⟩
    .rw[ZZ d8]at hi;rw[ZZ (by simpa[e1]using d8)]
     rw[Tm]at hi;cases hk:eE[i-(Hx aX HL).length]? with
     |none=>rw[hk]at hi;cases hi
     |some id=>
      rw[hk]at hi;simp only[aaD,aav]at hi;subst hi;refine⟨_,by rw[Pj,<-e1,Tm,hk];rfl,MK id (Tp hk),aE⟩)
   have eX:(xs.toList.map a.eval++eE.map λid=>Value.pointer (some ⟨(ρ.aI (.aj id)).b,(ρ.aI (.aj id)).aq,none⟩)).toArray=
     xs.map a.eval++(eE.map λid=>Value.pointer (some ⟨(ρ.aI (.aj id)).b,(ρ.aI (.aj id)).aq,none⟩)).toArray:=by
    apply abZ;simp
   rw[eX]at A6;refine A6.mono λe w' hR=>?_
   obtain⟨v,r,m',U',rfl,hK,jo,yX,tL⟩:=hR;obtain⟨fP,LH,hI⟩:=h.step (d:=o.dst) jo yX tL hK;exact hn fP m' U' _ w' LH hI
  .exact hs.elim
 .obtain⟨nx,v,w',cv,m',U',hr,Xd,hK,jo,yX,tL⟩:=Fz hl (λf xs ts e=>hc ⟨f,xs,ts,e⟩) h.mem h.aX hs
  obtain⟨fP,LH,hI⟩:=h.step (d:=o.dst) jo yX tL hK;unfold Oper.wp;rw[hr];rcases Xd with rfl|⟨rfl,rfl⟩
  .exact hn fP m' U' _ w' LH hI
  .exact hn fP m' U' _ w' LH hI
theorem tQ{ops:Array Oper}:∀{l:List Oper}{bW:List LO},mX P ops l=some bW->∀(o:Oper)(r:List Oper),l=o::r->∃lo lr,bW=lo::lr/\wH P ops o=some lo/\mX P ops r=some lr:=by rintro l bW h o r rfl;simp only[mX,U6,N7]at h;obtain⟨lo,h1,lr,h2,h3⟩:=h;cases h3;exact⟨lo,lr,rfl,h1,h2⟩
theorem A7{aX:List CV}{s:Nat}{t:Bool}(h:kP aX s=aD t):aV aX s (aD t)=aX:=by
 rw[aY];rw[mc]at h;cases hg:aX[s]? with
 |none=>rw[hg]at h;cases h
 |some c=>
  rw[hg]at h;simp only[abt]at h;subst h;exact abr λi=>by
   by_cases hi:s=i
   .subst hi;rw[TH (Km.1 hg).1,hg]
   .rw[U7 hi]
theorem xf{ops:Array Oper}{Q:Exit->Act->World->Prop}{K:List CV->Mem->Prop}(hQ:∀aX m ρ a w,K aX m->Inv N ρ0 m0 w0 ⟨aX,m⟩ ρ a w->Q .normal a w):
  ∀(l:List Oper)(k:Nat)(bW:List LO)(aX:List CV)(m:Mem)(ρ:bI)(a:Act)(w:World),ops.toList.drop k=l->mX P ops l=some bW->Je P bW K aX m->Inv N ρ0 m0 w0 ⟨aX,m⟩ ρ a w->
   wpOps P ops Q (List.range' k l.length) a w
 | [],k,bW,aX,m,ρ,a,w,hl,j7,h,hI=>by simp[mX]at j7;subst j7;exact hQ aX m ρ a w h hI
 |o::r,k,bW,aX,m,ρ,a,w,hl,j7,h,hI=>by
  obtain⟨lo,lr,rfl,h1,h2⟩:=tQ j7 o r rfl;have fC:ops[k]? =some o:=by
   have:(ops.toList.drop k)[0]? =some o:=by rw[hl];rfl
   simpa using this
  have hr:ops.toList.drop (k+1)=r:=by rw[<-List.tail_drop,hl];rfl
  have ih:=λaX m ρ a w=>xf hQ r (k+1) lr aX m ρ a w hr h2
  simp only[wH,U6,N7]at h1;obtain⟨i,hi,g,hg,h1⟩:=h1;cases h1;simp only[aau,adE,wpOps,fC];have skip:∀(e:List CV),Inv N ρ0 m0 w0 ⟨e,m⟩ ρ a w->(put o.dst .undef e λe'=>Je P lr K e' m)->wpOps P ops Q (List.range' (k+1) r.length) (a.put o.dst Go.undef) w:=λe Zx hp=>by obtain⟨fP,LH,qa⟩:=Zx.step (d:=o.dst) (c:= .undef) (v:=Go.undef) Zx.mem rfl (Ext.refl _ _ _) hp;exact ih _ _ _ _ _ LH qa
  have exec:∀(e:List CV),Inv N ρ0 m0 w0 ⟨e,m⟩ ρ a w->(step P i e m λv m'=>put o.dst v e λe'=>Je P lr K e' m')->o.wp P a w (wpOps P ops Q (List.range' (k+1) r.length)) Q:=λe Zx hp=>
   Db hi Zx hp λfP m' U' a' w' LH qa=>ih _ _ _ _ _ LH qa
  cases MM:o.guard with
  |none=>
   rw[MM]at hg;simp[Ma]at hg;subst hg;have hw:Region.wanted o (yielded ops a.tmps)=true:=by simp[Region.wanted,MM]
   rw[if_pos hw];simp only[zt,HE,fp]at h;exact .inl (exec aX hI h)
  |some jb=>
   obtain⟨j,ku⟩:=jb;rw[MM]at hg;simp only[Ma,U6,N7]at hg;obtain⟨oj,hoj,s,hs,hg⟩:=hg;cases hg;have hy:yielded ops a.tmps j=match a.tmps[s]? with|some (.bool b)=>some b|_=>none:=by simp[yielded,hoj,hs];rfl
   simp only[zt,HE]at h;split at h
   .rename_i d8;have cq:=hI.aX.get s;rw[d8]at cq;have hu:a.tmps[s]? =some Go.undef\/a.tmps[s]? =none:=by
     simp only[ce,abE]at cq;cases ht:a.tmps[s]? with
     |none=>exact .inr rfl
     |some v=>rw[ht]at cq;simp at cq;exact .inl (by rw[cq])
    have hw:Region.wanted o (yielded ops a.tmps)=false:=by
     simp only[Region.wanted,MM,hy];rcases hu with hu|hu<;>rw[hu]<;>rfl
    rw[if_neg (by simp[hw])]
    exact skip aX hI h
   .rename_i t d8;have cq:=hI.aX.get s;rw[d8]at cq;have ht:a.tmps[s]? =some (.bool t):=by
     have:=(bF cq).1;rw[abE]at this;cases ht:a.tmps[s]? with
     |none=>rw[ht]at this;cases this
     |some v=>rw[ht]at this;simp at this;rw[this]
    have hw:Region.wanted o (yielded ops a.tmps)=(t==ku):=by simp[Region.wanted,MM,hy,ht]
    have sa:∀b,t=b->aV aX s (aD b)=aX:=λb hb=>by subst hb;exact A7 d8
    rcases cn.1 h with⟨rfl,h⟩|⟨rfl,h⟩
    .simp only[fp,sa true rfl]at h;cases ku with
     |true=>rw[if_pos (by simp[hw])];exact .inl (exec aX hI h)
     |false=>rw[if_neg (by simp[hw])];exact skip aX hI h
    .simp only[fp,sa false rfl]at h;cases ku with
     |false=>rw[if_pos (by simp[hw])];exact .inl (exec aX hI h)
     |true=>rw[if_neg (by simp[hw])];exact skip aX hI h
   .exact h.elim
theorem bj.du{ρ:bI}{w:World}{pos:Option (Nat×Nat×Nat)}{c:CC}{v:Value}(h:bj ρ w pos c v):c.du ρ.n:=by
 cases c<;>simp only[bj]at h<;>simp only[CC.du]
 case ptr=>exact h.1
 case nI=>exact h.1
 case row=>exact h.1
 case map=>exact h.1
 case fn=>exact h.1
theorem df.du{ρ:bI}{w:World}{r:RV}{v:Value}(h:df ρ w r v):r.du ρ.n:=by
 cases r with
 |one c=>exact bj.du h
 |agg cs=>
  obtain⟨vs,_,_,hc⟩:=h;intro c rT;obtain⟨i,hi⟩:=aaa rT;obtain⟨u,_,hd⟩:=hc i c hi;exact hd.du
theorem ce.du{ρ:bI}{w:World}{c:CV}{v:Value}(h:ce ρ w c v):c.du ρ.n:=by
 cases c with
 |aA=>trivial
 |undef=>trivial
 |rv r=>exact df.du h
 |bD rs=>
  obtain⟨vs,_,_,hc⟩:=h;intro r hr;obtain⟨i,hi⟩:=aaa hr;obtain⟨u,_,hd⟩:=hc i r hi;exact hd.du
theorem cJ.du{ρ:bI}{w:World}{id:Nat}{b:Bk}(h:cJ ρ w id b):b.du ρ.n:=by
 cases b with
 |aS=>trivial
 |var cs=>
  obtain⟨cur,_,hc⟩:=h;intro c rT;obtain⟨i,hi⟩:=aaa rT;obtain⟨u,_,hd⟩:=hc i c hi;exact hd.du
 |row esz elems=>
  obtain⟨h1,h2,h3,h4,h5⟩:=h;intro cs fe c rT;obtain⟨i,hi⟩:=aaa fe;obtain⟨j,hj⟩:=aaa rT;have aC:=(Km.1 hi).1;obtain⟨cur,_,_,hc⟩:=h5 om;obtain⟨u,_,hd⟩:=hc i cs j c hi hj;exact hd.du
 |mp es=>
  obtain⟨bq,ck,_,_,hc⟩:=h;intro e he;obtain⟨i,hi⟩:=aaa he;obtain⟨e',_,_,hd⟩:=hc i e hi;exact hd.du
 |it cur left=>trivial
 |mo esz es so=>
  obtain⟨bq,ck,_,⟨_,hc⟩,_⟩:=h;intro e he;obtain⟨i,hi⟩:=aaa he;obtain⟨e',_,_,_,hd⟩:=hc i e hi;obtain⟨k,v⟩:=e;cases v with
  |ei l=>trivial
  |row n=>exact hd.1
 |iw mid ip seen=>exact h.1
theorem mY.get:∀{m m':Mem},mY m m'->∀(i:Nat)b',m'[i]? =some b'->b'= .aS\/m[i]? =some b'
 |_,_,.nil m,i,b',h=>by simp at h
 |_,_,.cons (b:=b) (b':=b1) (m:=m) (m':=m') h hm,i,b',hi=>by
  cases i with
  |zero=>simp at hi;subst hi;rcases h with rfl|rfl<;>simp
  |succ i=>simpa using hm.get i b' (by simpa using hi)
theorem Me.aaO{n0:Nat}{s s':St}{ρ:bI}{w:World}(h:Me n0 s s')(hM:ay ρ s.mem w):∀b,b∈s'.mem->b.du s'.mem.length:=by
 rcases h.kJ with he|hi
 .intro b hb;obtain⟨i,hi⟩:=aaa hb;rcases h.mem.get i b hi with rfl|tM
  .trivial
  .have:=(hM.bk i b tM).du;rw[he,<-hM.n];exact this
 .exact hi
theorem Me.view{n0:Nat}{s s':St}(hw:Me n0 s s'):View n0 s s':=by
 refine⟨hw.n0,hw.len,λρ w ml=>?_⟩
 obtain⟨hM,bY⟩:=ml.Mf hw.mem (hw.aaO ml);refine⟨{ρ with n:=s'.mem.length},hM,⟨λ_ _=>rfl,λ_ h=>h,λ_ h=>.inl h,λk hk=>⟨k,bY k hk,rfl⟩⟩,λi c hi=>?_⟩
 rcases hw.aX i c hi with rfl|⟨eO,Mg⟩
 .have aC:i<s.aX.length:=by rw[<-hw.len];exact(Km.1 hi).1
  exact⟨_,vU aC,λ_ _=>trivial⟩
 .refine⟨c,eO,λv hd=>?_⟩
  have Xe:c.du s'.mem.length:=by
   rcases Mg with he|Mg
   .rw[he,<-ml.n];exact hd.du
   .exact Mg
  exact hd.cut Xe
theorem Inv.Mf{st jD:St}{ρ:bI}{a:Act}{w:World}(hI:Inv N ρ0 m0 w0 st ρ a w)(ml:ρ0.n=m0.length)(hw:View m0.length st jD):∃U',Inv N ρ0 m0 w0 jD U' a w:=by
 obtain⟨U',hM,hc,hd⟩:=hw.go ρ w hI.mem;refine⟨U',⟨by rw[ml,hM.n];exact hw.hn,λid hid=>(hc.aI id (by rw[<-ml];exact hid)).trans (hI.ext.aI id hid),λb hb=>hc.S b (hI.ext.S b hb),λb hb=>?_,λk hk=>?_,hI.ext.frame,hI.ext.size,hI.ext.os,hI.ext.tape,hI.ext.output⟩,hM,?_,hI.defers.s hc.S,hI.hN,hw.hn⟩
 .rcases hc.S' b hb with h|⟨k,hk,rfl⟩
  .exact hI.ext.S' b h
  .exact .inr (hI.ext.aL k hk)
 .obtain⟨k0,h0,e0⟩:=hc.aL k hk;rw[<-e0];exact hI.ext.aL k0 h0
 .refine⟨hI.aX.size.trans hw.len.symm,λi c hi=>?_⟩
  obtain⟨c0,we,MN⟩:=hd i c hi;obtain⟨v,hv,p7⟩:=hI.aX.jS i c0 we;exact⟨v,hv,MN v p7⟩
end
section
variable {P:Program}
theorem ap.mono{f:Nat}{args:List CV}{m:Mem}{K K':CV->Mem->Prop}(h:ap P f args m K)(hK:∀v m',K v m'->K' v m'):ap P f args m K':=
 ⟨h.1,λρ w vs hM hl hd=>(h.2 ρ w vs hM hl hd).mono λe w'⟨v,r,m',U',he,hk,rM⟩=>⟨v,r,m',U',he,hK _ _ hk,rM⟩⟩
theorem FB{i:I}(hq:tG i=true){e:List CV}{m:Mem}{K:CV->Mem->Prop}(h:step P i e m K):
  ∃v,K v m/\∀K':CV->Mem->Prop,K' v m->step P i e m K':=by
 cases i<;>simp[tG,zr]at hq
 case load agg n a=>
  simp only[step,wB,aU,cn]at h|-;repeat' split at h
  all_goals(try exact h.elim)
  all_goals grind
 all_goals simp only[step,aU,cn]at h|-
 all_goals(repeat' split at h)
 all_goals(try exact h.elim)
 all_goals(try(exact⟨_,h,λ_ h=>h⟩))
 all_goals grind
theorem JI{i:I}(hq:zr i=true){e:List CV}{m:Mem}{K:CV->Mem->Prop}(h:step P i e m K):
  ∃v,K v m/\∀(m':Mem)(K':CV->Mem->Prop),K' v m'->step P i e m' K':=by
 cases i<;>simp[zr]at hq
 all_goals simp only[step,aU,cn]at h|-
 all_goals(repeat' split at h)
 all_goals(try exact h.elim)
 all_goals(try(exact⟨_,h,λ_ _ h=>h⟩))
 all_goals grind
theorem zM{i:I}{e:List CV}{m:Mem}{K K':CV->Mem->Prop}(h:step P i e m K)(hK:∀v m',K v m'->K' v m'):step P i e m K':=by
 cases i
 case call f args=>
  simp only[step]at h|-;split at h
  .exact h.mono hK
  .exact h.elim
 case load agg n a=>
  simp only[step,wB,aU,cn]at h|-;repeat' split at h
  all_goals(try exact h.elim)
  all_goals grind
 case len k x=>
  simp only[step,aU,cn]at h|-;repeat' split at h
  all_goals(try exact h.elim)
  all_goals grind
 all_goals simp only[step,aU,cn,gP,fp]at h|-
 all_goals(try exact hK _ _ h)
 all_goals(try(repeat' split at h))
 all_goals(try exact h.elim)
 all_goals(try exact hK _ _ h)
 all_goals grind
theorem tR{e e':List CV}:∀{xs:List X},(∀x,x∈xs->x.ev e=x.ev e')->Hx e xs=Hx e' xs
 | [],_=>rfl
 |x::r,h=>by simp only[Hx];rw[h x aE,tR λy hy=>h y (by simp[hy])]
theorem ve{e e':List CV}:∀{ps:List (Nat×Nat×X)}{z:List CC},(∀x,x∈ps.map (λp=>p.2.2)->x.ev e=x.ev e')->oJ e z ps=oJ e' z ps
 | [],_,_=>rfl
 |(o,s,x)::r,z,h=>by
  simp only[oJ];rw[h x aE];have ih:=λz=>ve (ps:=r) (z:=z) λy hy=>h y (by simp at hy|-;exact .inr hy)
  simp only[ih]
theorem vf{e e':List CV}{esz:Nat}:∀{ps:List (Nat×X)}{z:List (List CC)},(∀x,x∈ps.map (λp=>p.2)->x.ev e=x.ev e')->uQ e esz z ps=uQ e' esz z ps
 | [],_,_=>rfl
 |(i,x)::r,z,h=>by
  simp only[uQ];rw[h x aE];have ih:=λz=>vf (esz:=esz) (ps:=r) (z:=z) λy hy=>h y (by simp at hy|-;exact .inr hy)
  simp only[ih]
theorem FC{i:I}{e e':List CV}{m:Mem}{K:CV->Mem->Prop}(hx:∀x,x∈i.xs->x.ev e=x.ev e')(h:step P i e m K):step P i e' m K:=by
 cases i<;>simp only[I.xs,aaJ,ac7,or_false,forall_eq_or_imp,forall_eq]at hx
 case build z ps=>simpa only[step,ve hx]using h
 case od esz z len ps=>simpa only[step,vf hx]using h
 case fn f eE=>simpa only[step,tR hx]using h
 case call f args=>simpa only[step,hx.1,tR hx.2]using h
 case load agg n a=>simpa only[step,wB,hx]using h
 case kq mx xs=>
  rcases xs with _|⟨x,_|⟨y,_|⟨z,r⟩⟩⟩
  .exact h
  .exact h
  .have h1:=hx x aE;have h2:=hx y aE;simpa only[step,h1,h2]using h
  .exact h
 case oG esz x lo hi mx=>
  have MP:∀(o:Option X)(d:Nat),(∀y,y∈o.toList->y.ev e=y.ev e')->li e o d=li e' o d:=λo d ho=>by
   cases o with
   |none=>rfl
   |some y=>simp only[li];rw[ho y aE]
  have hz:∀(o:Option X),(∀y,y∈o.toList->y.ev e=y.ev e')->E4 e o=E4 e' o:=λo ho=>by
   cases o with
   |none=>rfl
   |some y=>simp only[E4];rw[ho y aE]
  have h1:∀d,li e lo d=li e' lo d:=λd=>MP lo d λy hy=>hx.2 y (by simp[hy])
  have h2:∀d,li e hi d=li e' hi d:=λd=>MP hi d λy hy=>hx.2 y (by simp[hy])
  have h3:E4 e hi=E4 e' hi:=hz hi λy hy=>hx.2 y (by simp[hy])
  cases mx with
  |none=>simpa only[step,hx.1,h1,h2]using h
  |some y=>
   have h4:y.ev e=y.ev e':=hx.2 y aE;simpa only[step,hx.1,h1,h2,h3,h4]using h
 case Jb x lo hi=>
  have MP:∀(o:Option X)(d:Nat),(∀y,y∈o.toList->y.ev e=y.ev e')->li e o d=li e' o d:=λo d ho=>by
   cases o with
   |none=>rfl
   |some y=>simp only[li];rw[ho y aE]
  have h1:∀d,li e lo d=li e' lo d:=λd=>MP lo d λy hy=>hx.2 y (by simp[hy])
  have h2:∀d,li e hi d=li e' hi d:=λd=>MP hi d λy hy=>hx.2 y (by simp[hy])
  simpa only[step,hx.1,h1,h2]using h
 case len k x=>
  match k with
  |0=>simpa only[step,hx]using h
  |1=>simpa only[step,hx]using h
  |2=>simpa only[step,hx]using h
  |k+3=>simpa only[step,hx]using h
 all_goals first
  |(simpa only[step,hx,hx.1,hx.2]using h)
  |(simpa only[step,hx]using h)
  |(simpa only[step]using h)
end
end Go.AM
