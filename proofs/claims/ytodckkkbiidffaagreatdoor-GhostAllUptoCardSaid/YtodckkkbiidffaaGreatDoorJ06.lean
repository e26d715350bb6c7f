/- Part 6 of 16. -/
import Derived.Test.YtodckkkbiidffaaGreatDoorJ02
import Derived.Test.YtodckkkbiidffaaGreatDoorJ03
import Derived.Test.YtodckkkbiidffaaGreatDoorJ04
import Derived.Test.YtodckkkbiidffaaGreatDoorJ05
import Derived.WideKeyRuns
import Derived.Laws.IdiomStrings
import Derived.Laws.MakeOwn
import Derived.MapKept
import Derived.Maps.RangeRun
set_option linter.unusedVariables false
set_option linter.unusedSimpArgs false
set_option linter.unnecessarySimpa false
set_option maxRecDepth 100000
set_option maxHeartbeats 0
namespace Go.AM
open Go.MapKept
section
variable {P:Program} {ρ:bJ} {m:Mem} {w:World} {aZ:List CV} {a:Act} {K:CV->Mem->Prop}
theorem zD:∀{E:List (List CC)}{xs:List Int},ww E=some xs->E=xs.map λn=>[.ah (.val (.int .u8 n))]
 | [],xs,h=>by simp[ww]at h;subst h;rfl
 |cs::r,xs,h=>by
  unfold ww at h;split at h
  .rename_i heq;cases heq
  .rename_i n r' heq;cases heq;split at h
   .rename_i l hl;cases h;rw[zD hl];rfl
   .cases h
  .cases h
theorem Jo(hM:aA ρ m w)(hE:bn ρ w aZ a.tmps){s d e:TypeId}{x:Operand}{x':X}(hs:P.underlying s=some (.slice e))(he:P.underlying e=some (.int .u8))(hd:P.underlying d=some .string)(hx:bq x=some x')(h:step P (.VO x') aZ m K):dh P (do pure (Next.value (<-convert s d (a.eval x)))) ρ m w K:=by
 have cr:=aT hE hx;simp only[step]at h;obtain⟨E,AN,h⟩:=aW.1 h;obtain⟨xs,hxs,hK⟩:=aW.1 h;obtain⟨ad,cap,vs,hv,h1,h2,F⟩:=nO hM AN cr;have hEx:=zD hxs;have EN:∀i,i<xs.length->vs[i]? =some (.int .u8 (xs.getD i 0)):=by
  intro i hi;have hg:E[i]? =some [.ah (.val (.int .u8 xs[i]))]:=by rw[hEx,Tr,vR hi];rfl
  obtain⟨u,hu,cz⟩:=F.jR i _ 0 _ hg rfl;cases cz with
  |val v hp=>
   rw[show i=i*1+0 by omega,hu]
   simp[List.getD,vR hi]
 have hlen:E.length=xs.length:=by rw[hEx];simp
 refine dh.pure hM (v:= .string (strOfNums xs)) ?_ hK (cA rfl);rw[hv,Sem.run_bind];rcases abp E.length with h0|h0
 .have WY:xs=[]:=aaq om;subst WY;rw[h0];cases ad with
  |none=>rw[run_convert_bytes_nil (P:=P) w s e hs he 0 cap d hd];rfl
  |some ad=>
   obtain⟨b,off,sp⟩:=ad;have:(convert s d (.slice (some ⟨b,off,sp⟩) 0 cap)).run P w= .ok (.string (strOfNums [])) w:=by
    rw[run_convert_bytes_string w s d e _ 0 cap hs he hd,run_bytesToString w _ 0 cap [] (by simp[loadCells,loadCellsFrom])]
    rfl
   rw[this];rfl
 .obtain⟨b,off,rfl,hc⟩:=F.Mo h0;rw[run_convert_bytes_arg (P:=P) w s e hs he b off E.length cap xs hlen.symm (λi hi=>hc i _ (EN i om)) d hd]
  rfl
theorem rW(hM:aA ρ m w){esz cap:Nat}{elems:List (List CC)}{cells:Array Value}{w':World}(SF:eP w w')(b8:mE (esz=1) w' w.heap.size cells)(dq:cap*esz<=cells.size)(hlen:elems.length<=cap)(bg:cap<=maxLen)(ol:∀cs,cs∈elems->cs.length=esz)(hd:∀(i:Nat)cs(j:Nat)c,elems[i]? =some cs->cs[j]? =some c->∃u,cells[i*esz+j]? =some u/\bm ρ w .none c u):
  ∃U',aA U' (m++ [.row esz elems]) w'/\Ext ρ m w U' (m++ [.row esz elems]) w'/\
   cf U' w' (.rv (.one (.row m.length esz 0 none))) (.slice (some ⟨w.heap.size,0,none⟩) elems.length cap):=by
 have aD:w.heap.size<w'.heap.size:=b8.lt;let l:wj:=⟨w.heap.size,0,elems.length,cap⟩;have hn:=hM.n;have bQ:(ρ.push l).aI (.aj m.length)=l:=by rw[<-hn];exact ρ.gi l
 have g:iM ρ w (ρ.push l) w':=⟨by simp[bJ.push],λk hk=>ρ.eU l hk,λb hb=>hb,λb hb=>SF.heap b (hM.S b hb)⟩
 have hb:cK (ρ.push l) w' m.length (.row esz elems):=by
  refine⟨by rw[bQ],by rw[bQ];exact hlen,by rw[bQ];exact bg,ol,λ_=>⟨cells,by rw[bQ];exact b8,by rw[bQ];simpa[l]using dq,λi cs j c hi hj=>?_⟩⟩
  obtain⟨u,hu,cz⟩:=hd i cs j c hi hj;exact⟨u,by rw[bQ];simpa[l]using hu,(cz.cn g aC).wF _⟩
 obtain⟨h1,h2⟩:=hM.push (l:=l) SF (Yj _) aD hb (λi cs j c hi hj=>by obtain⟨u,hu,cz⟩:=hd i cs j c hi hj;exact cz.AG)
 refine⟨_,h1,h2,by simp[bJ.push,hn],?_⟩
 rw[bQ];refine⟨aC,aC,hlen,bg,_,rfl,λ_=>?_⟩
 simp[l]
theorem Jp(hM:aA ρ m w)(hE:bn ρ w aZ a.tmps){s d e:TypeId}{x:Operand}{x':X}(hs:P.underlying s=some .string)(hd:P.underlying d=some (.slice e))(he:P.underlying e=some (.int .u8))(hx:bq x=some x')(h:step P (.Wn x') aZ m K):dh P (do pure (Next.value (<-convert s d (a.eval x)))) ρ m w K:=by
 have cr:=aT hE hx;simp only[step]at h;generalize a.eval x=v at cr|-;generalize x'.ev aZ=c at cr h;split at h
 .rename_i str;obtain⟨rfl,hp⟩:=bH cr;obtain⟨dq,hK⟩:=h;rw[gP,cg]at hK;have eG:=grownCap_ge w str.size 0 e;have hle:grownCap w str.size 0 e<=maxLen:=grownCap_le_maxLen w _ 0 e (by unfold maxLen;omega)
  have eL:(bytesRow str (grownCap w str.size 0 e)).size=grownCap w str.size 0 e:=by simp only[bytesRow,Array.size_append,Array.size_map,Array.size_replicate];have:str.data.size=str.size:=rfl;omega
  have hlen:(qT str).length=str.size:=by simp[qT]
  obtain⟨U',g1,g2,g3⟩:=rW hM (esz:=1) (cap:=grownCap w str.size 0 e) (elems:=qT str) (cells:=bytesRow str (grownCap w str.size 0 e))
   (w':=w.drew.alloc (.cells (bytesRow str (grownCap w str.size 0 e)) e ((bytesRow str (grownCap w str.size 0 e)).size,(bytesRow str (grownCap w str.size 0 e)).size+1)))
   ((eP.drew w).trans (eP.alloc w.drew _)) ⟨e,_,heap_alloc_new w.drew _,aC,(λi hi=>by simp;omega),.inl rfl⟩ (by rw[eL];omega) (by rw[hlen];exact eG) hle
   (λcs eL=>by simp only[qT,aaz]at eL;obtain⟨_,_,rfl⟩:=eL;rfl)
   (λi cs j c hi hj=>by
    simp only[qT,Tr]at hi;obtain⟨b,hb,rfl⟩:=aaB.1 hi;cases j with
    |zero=>
     simp at hj;subst hj;refine⟨.int .u8 b.toNat,?_,.val _ rfl⟩;have tL:str.data[i]? =some b:=by simpa using hb
     have aD:=(aaF.1 tL).1;simp only[bytesRow,Nat.mul_one,ac8];rw[acZ (by simpa using aD),adS,tL]
     rfl
    |succ j=>simp at hj)
  rw[hlen]at g3;exact⟨_,_,_,_,_,U',by rw[Sem.run_bind,run_bytes_of_string w s d e str hs hd he];rfl,.inl rfl,hK,g1,g3,g2⟩
 .exact h.elim
theorem yV(hM:aA ρ m w)(hE:bn ρ w aZ a.tmps){t e:TypeId}{i:TypeInfo}{z:List CC}{x y:Operand}{x' y':X}(ht:P.underlying t=some (.slice e))(hi:P.info? e=some i)(hz:ek P e=some z)(dq:i.size=z.length)(cJ:0<z.length)(hb:0<i.bytes)(hx:bq x=some x')(hy:bq y=some y')(h:step P (.pL i.size i.bytes z x' y') aZ m K):dh P (do pure (Next.value (<-Instr.makeSlice t (a.eval x) (a.eval y)))) ρ m w K:=by
 simp only[step]at h;obtain⟨l,hl,h⟩:=aW.1 h;obtain⟨c,hc,h⟩:=aW.1 h;rcases cq.1 h with⟨oW,h⟩|⟨_,h⟩
 case inr=>exact h.elim
 have oW:l=c:=aau oW;subst oW;obtain⟨kU,hK⟩:=h;rw[gP,cg]at hK;have nat:∀{c:CV}{v:Value}{k:Nat},qS c=some k->cf ρ w c v->∃kd,v= .int kd (k:Int):=by
  intro c v k h hd;unfold qS at h;split at h
  .cases h;obtain⟨rfl,_⟩:=bH hd;exact⟨_,rfl⟩
  .cases h
 obtain⟨kl,yW⟩:=nat hl (aT hE hx);obtain⟨kc,WZ⟩:=nat hc (aT hE hy);have EL:=hz;simp only[ek,U8,Pu]at EL;obtain⟨i',eQ,zv,Qs,Qo⟩:=EL;rw[hi]at eQ;cases eQ;obtain⟨hzl,Jq⟩:=fu (ρ:=ρ) (w:=w) Qo;have P5:zv.cells.size=z.length:=by simpa using hzl
 have Fm:l<=140737488355328:=abF (ady _ hb) kU;obtain⟨U',g1,g2,g3⟩:=rW hM (esz:=i.size) (cap:=l) (elems:=gH l z) (cells:=madeCells zv.cells (l*i.size)) (w':=w.alloc (.cells (madeCells zv.cells (l*i.size)) e))
  (eP.alloc w _) (mE.new w _ e) (by rw[size_madeCells];exact Yj _) (by rw[fZ];simp) (by unfold maxLen;omega)
  (λcs eL=>by rw[fZ]at eL;rw[acQ eL,dq])
  (λk cs j cc hk hj=>by
   rw[fZ]at hk;have kL:=(Ki.1 hk).1;simp at kL;have eL:cs=z:=by have:=Tu hk;exact acQ this
   subst eL;have yX:=(Ki.1 hj).1;obtain⟨u,hu,cz⟩:=Jq j cc hj;refine⟨u,?_,cz⟩;have aD:k*i.size+j<l*i.size:=by have:(k+1)*i.size<=l*i.size:=aa8 _ kL;rw[abk,ab4]at this;omega
   simp only[madeCells,adS,Array.getElem?_range];rw[if_pos aD];simp only[aaG,aaA];have hm:(k*i.size+j)%zv.cells.size=j:=by rw[P5,dq,adw,aeb,ad4 yX]
   rw[hm];have vH:zv.cells[j]? =some u:=by simpa using hu
   rw[getElem!_def,vH])
 have W0:(gH l z).length=l:=by rw[fZ];simp
 rw[W0]at g3;refine⟨_,_,_,_,_,U',?_,.inl rfl,hK,g1,g3,g2⟩;rw[yW,WZ,Sem.run_bind,run_make (P:=P) w t e i zv ht hi Qs kl kc (l:Int) (l:Int) om (adq _) ?_ om]
 .rfl
 .have:i.bytes*l<=140737488355328:=by rw[adw];exact kU
  have h2:((i.bytes*l:Nat):Int)<=((140737488355328:Nat):Int):=Int.ofNat_le.2 this;rw[Int.natCast_mul]at h2;exact Int.le_trans h2 om
def gJ:Ky->TypeDesc
 | .i k=>.int k
 | .s=>.string
 | .b=>.bool
 | .a2 _=>.bool
def mq(kk:Ky)(v:Value):Bool:=cu v&&kR kk v
theorem wQ{kk:Ky}{v:Value}(h:kR kk v=true)(hp:cu v=true):mq kk v=true:=by simp[mq,h,hp]
theorem m8{t:TypeId}{kk:Ky}{v:Value}(h:oO P t=some kk)(hk:mq kk v=true):P.underlying t=some (gJ kk):=by
 have na:∀k,kk≠.a2 k:=λk e=>by subst e;cases v<;>simp[mq,kR,cu]at hk
 unfold oO at h;split at h
 case h_4=>
  split at h
  .split at h
   .cases h;exact absurd rfl (na _)
   .cases h
  .cases h
 all_goals(simp at h<;>subst h<;>assumption)
theorem o4{kk:Ky}{v:Value}(h:mq kk v=true):IsKey (gJ kk) v:=by
 cases kk<;>cases v<;>simp_all[mq,kR,cu,IsKey,gJ]
theorem pP{kk:Ky}{a b:Value}{t:Bool}(ha:mq kk a=true)(h:gz a b=some t):Instr.sameNow (gJ kk) a b=some t/\(t=true->a=b)/\(t=false->a≠b):=by
 cases kk<;>cases a<;>simp[mq,kR,cu]at ha<;>cases b<;>simp only[gz,reduceCtorEq]at h
 .rename_i k x k' y;split at h
  .rename_i hk;have hk:=of_decide_eq_true hk;subst hk;cases h;refine⟨by simp[Instr.sameNow,gJ],λh=>by simp at h;rw[h],λh=>by simp at h;simpa using h⟩
  .cases h
 .rename_i x y;cases h;refine⟨by simp[Instr.sameNow,gJ],λh=>by rw[(bytes_beq _ _).1 h],λh e=>?_⟩
  cases e;rw[(bytes_beq _ _).2 rfl]at h;cases h
 .rename_i x y;cases h;refine⟨by simp[Instr.sameNow,gJ],λh=>by simp at h;rw[h],λh=>by simp at h;simpa using h⟩
theorem Mz{kt:TypeId}{k:IntKind}(h:oO P kt=some (.a2 k)):∃e,P.underlying kt=some (.array 2 e)/\P.underlying e=some (.int k)/\eN P e=some 1:=by
 unfold oO at h;split at h
 case h_4=>
  rename_i n e he;split at h
  .rename_i k' gh;split at h
   .rename_i hc;cases h;exact⟨e,by rw[he,hc.1],gh,hc.2⟩
   .cases h
  .cases h
 all_goals cases h
theorem Fw{k:IntKind}{v:Value}(h:kR (.a2 k) v=true):∃x y,v= .agg #[.int k x,.int k y]:=by
 cases v<;>simp only[kR,abR]at h
 rename_i a;split at h
 .rename_i k1 x k2 y he;simp only[aae,decide_eq_true_eq]at h;obtain⟨rfl,rfl⟩:=h;refine⟨x,y,?_⟩;rw[<-Array.toArray_toList (xs:=a),he]
 .cases h
theorem CT{kt:TypeId}{k:IntKind}{v:Value}(hk:oO P kt=some (.a2 k))(h:kR (.a2 k) v=true)(e:Bool)(n:Nat):(Instr.checkKey e (n+2) kt v).run P w= .ok () w:=by
 obtain⟨el,h1,h2,h3⟩:=Mz hk;obtain⟨x,y,rfl⟩:=Fw h;have ha:ec P el=some false:=by simp[ec,h2]
 have p1:=m5 (w:=w) (t:=el) (pre:=[]) (us:=[.int k x]) (post:=[.int k y]) h3 (.inr ⟨ha,rfl⟩);have p2:=m5 (w:=w) (t:=el) (pre:=[.int k x]) (us:=[.int k y]) (post:=[]) h3 (.inr ⟨ha,rfl⟩);simp[oU,ha]at p1 p2;have dq:=ft (w:=w) h3;have hc:∀z,(Instr.checkKey e (n+1) el (.int k z)).run P w= .ok () w:=λz=>by simp[Instr.checkKey,run_underlying h2]
 rw[Instr.checkKey];simp only[Sem.run_bind,run_underlying h1,Result.andThen_ok];simp[Std.Legacy.Range.forIn_eq_forIn_range',Std.Legacy.Range.size,List.range',dq,p1,p2,hc]
theorem MA{kt:TypeId}{k:IntKind}{a b:Value}{t:Bool}(hk:oO P kt=some (.a2 k))(ha:kR (.a2 k) a=true)(h:gz a b=some t):(Op.equal kt a b).run P w= .ok t w/\(t=true->a=b):=by
 obtain⟨el,h1,h2,h3⟩:=Mz hk;obtain⟨x,y,rfl⟩:=Fw ha;cases b<;>simp only[gz,reduceCtorEq]at h
 rename_i b;obtain⟨l⟩:=b;unfold Wq at h;split at h
 .rename_i k1 x1 k2 y1 k3 x2 k4 y2 e1 e2;simp only[aea,Value.int.injEq,and_true]at e1;obtain⟨⟨rfl,rfl⟩,rfl,rfl⟩:=e1;subst e2;split at h
  .rename_i hc;simp only[aae,decide_eq_true_eq]at hc;obtain⟨rfl,rfl⟩:=hc;cases h;have WE:=h3;simp only[eN,aaB]at WE;obtain⟨i,hi,Je⟩:=WE;have hc:P.cellsOf el=1:=by simp[Program.cellsOf,hi,Je]
   have cP:=nN (w:=w) h2 h3 9998 [.int k x,.int k y] [.int k x2,.int k y2] [] [] (x==x2&&y==y2) rfl (by simp[gH,jm,PZ])
   refine⟨?_,λh=>by simp at h;rw[h.1,h.2]⟩
   show(Op.equalIn (9999+1) kt (.agg _) (.agg _)).run P w=_;rw[run_equalIn_array w 9999 _ _ h1 hi,hc,adH];simpa using cP
  .cases h
 .cases h
theorem CU{kt:TypeId}{k:IntKind}{kv:Value}(pQ:oO P kt=some (.a2 k))(hk:kR (.a2 k) kv=true):∀(es:List ME)(bt:List MapEntry)(n:Nat)(o:Option RV),bt.length=es.length->
  (∀(i:Nat)e,es[i]? =some e->∃e',bt[i]? =some e'/\e'.key=e.key/\dk ρ w e.val e'.val)->oh kv es=some o->
  match o with
  |none=>(Instr.findAsking kt kv bt n).run P w= .ok none w
  |some r=>∃j v,(Instr.findAsking kt kv bt n).run P w= .ok (some (n+j,v)) w/\dk ρ w r v
 | [],[],n,o,_,_,h=>by simp[oh]at h;subst h;simp[Instr.findAsking]
 | [],_::_,_,_,h,_,_=>by simp at h
 |_::_,[],_,_,h,_,_=>by simp at h
 |e::es,e'::bt,n,o,hl,hr,h=>by
  obtain⟨e0,h0,gj,cr⟩:=hr 0 e rfl;simp at h0;subst h0;simp only[oh]at h;cases hq:gz kv e.key with
  |none=>rw[hq]at h;cases h
  |some t=>
   obtain⟨q1,_⟩:=MA (w:=w) pQ hk hq;rw[<-gj]at q1;cases t with
   |true=>
    rw[hq]at h;cases h;exact⟨0,e'.val,by simp[Instr.findAsking,q1],cr⟩
   |false=>
    rw[hq]at h;have ih:=CU pQ hk es bt (n+1) o (by simpa using hl) (λi x hx=>by simpa using hr (i+1) x (by simpa using hx)) h
    cases o with
    |none=>simpa[Instr.findAsking,q1]using ih
    |some r=>
     obtain⟨j,v,h1,h2⟩:=ih;exact⟨j+1,v,by simp[Instr.findAsking,q1,h1];omega,h2⟩
theorem HR{kt:TypeId}{k:IntKind}{kv:Value}(pQ:oO P kt=some (.a2 k))(hk:kR (.a2 k) kv=true)(r:RV):∀(es:List ME)(bt:List MapEntry)(n:Nat)(l:List ME),bt.length=es.length->
  (∀(i:Nat)e,es[i]? =some e->∃e',bt[i]? =some e'/\e'.key=e.key/\dk ρ w e.val e'.val)->wt kv r es=some l->
  ((Instr.findAsking kt kv bt n).run P w= .ok none w/\l=es++ [⟨kv,r⟩])\/∃j e',(Instr.findAsking kt kv bt n).run P w= .ok (some (n+j,e'.val)) w/\bt[j]? =some e'/\e'.key=kv/\l=es.set j ⟨kv,r⟩
 | [],[],n,o,_,_,h=>by
  simp[wt]at h;subst h;exact .inl ⟨by simp[Instr.findAsking],rfl⟩
 | [],_::_,_,_,h,_,_=>by simp at h
 |_::_,[],_,_,h,_,_=>by simp at h
 |e::es,e'::bt,n,o,hl,hr,h=>by
  obtain⟨e0,h0,gj,cr⟩:=hr 0 e rfl;simp at h0;subst h0;simp only[wt]at h;cases hq:gz kv e.key with
  |none=>rw[hq]at h;cases h
  |some t=>
   obtain⟨q1,q2⟩:=MA (w:=w) pQ hk hq;rw[<-gj]at q1;cases t with
   |true=>
    rw[hq]at h;cases h;exact .inr ⟨0,e',by simp[Instr.findAsking,q1],rfl,by rw[gj,q2 rfl],rfl⟩
   |false=>
    rw[hq]at h;simp only at h;split at h
    .rename_i l' AP;cases h;rcases HR pQ hk r es bt (n+1) l' (by simpa using hl) (λi x hx=>by simpa using hr (i+1) x (by simpa using hx)) AP with⟨h1,rfl⟩|⟨j,e1,h1,h2,h3,rfl⟩
     .exact .inl ⟨by simpa[Instr.findAsking,q1]using h1,rfl⟩
     .exact .inr ⟨j+1,e1,by simp[Instr.findAsking,q1,h1];omega,by simpa using h2,h3,rfl⟩
    .cases h
theorem wR{kt:TypeId}{k:IntKind}(hk:oO P kt=some (.a2 k))(x:Value)(es:List MapEntry):(Instr.findKey kt x es).run P w=(Instr.findAsking kt x es).run P w:=by
 obtain⟨el,h1,_⟩:=Mz hk;exact run_findKey_eq w (by simp[h1]) x es
theorem MB{k:IntKind}{kv:Value}(hk:kR (.a2 k) kv=true):(Instr.keyThatStays kv kv).run P w= .ok kv w:=by obtain⟨x,y,rfl⟩:=Fw hk;simp[Instr.keyThatStays,Instr.sameBits]
theorem wS{cs:List CC}{kv v:Value}(h:tC cs=some kv)(hd:cf ρ w (.rv (.agg cs)) v):v=kv:=by
 unfold tC at h;split at h
 .cases h;obtain⟨us,rfl,l,d⟩:=hd;simp at l
  match us,l with
  | [a,b],_=>
   obtain⟨v1,e1,d1⟩:=d 0 _ rfl;obtain⟨v2,e2,d2⟩:=d 1 _ rfl;cases e1;cases e2;obtain⟨rfl,_⟩:=bH (ρ:=ρ) (w:=w) d1;obtain⟨rfl,_⟩:=bH (ρ:=ρ) (w:=w) d2;rfl
 .cases h
theorem CW{kk:Ky}{cs:List CC}{kv:Value}(h:tC cs=some kv)(fA:kR kk kv=true):∃k,kk= .a2 k:=by
 unfold tC at h;split at h
 .cases h;cases kk<;>simp[kR]at fA
  exact⟨_,rfl⟩
 .cases h
theorem u4{kk:Ky}{kv:Value}(hk:mq kk kv=true):∀(es:List ME)(bt:List MapEntry)(n:Nat)(o:Option RV),bt.length=es.length->
  (∀(i:Nat)e,es[i]? =some e->∃e',bt[i]? =some e'/\e'.key=e.key/\dk ρ w e.val e'.val)->oh kv es=some o->
  match o with
  |none=>Instr.findNow (gJ kk) kv bt n=some none
  |some r=>∃j v,Instr.findNow (gJ kk) kv bt n=some (some (n+j,v))/\dk ρ w r v
 | [],[],n,o,_,_,h=>by simp[oh]at h;subst h;rfl
 | [],_::_,_,_,h,_,_=>by simp at h
 |_::_,[],_,_,h,_,_=>by simp at h
 |e::es,e'::bt,n,o,hl,hr,h=>by
  obtain⟨e0,h0,gj,cr⟩:=hr 0 e rfl;simp at h0;subst h0;simp only[oh]at h;cases hq:gz kv e.key with
  |none=>rw[hq]at h;cases h
  |some t=>
   obtain⟨q1,q2,q3⟩:=pP hk hq;rw[<-gj]at q1;cases t with
   |true=>
    rw[hq]at h;cases h;exact⟨0,e'.val,by simp[Instr.findNow,q1],cr⟩
   |false=>
    rw[hq]at h;have ih:=u4 hk es bt (n+1) o (by simpa using hl) (λi x hx=>by simpa using hr (i+1) x (by simpa using hx)) h
    cases o with
    |none=>simpa[Instr.findNow,q1]using ih
    |some r=>
     obtain⟨j,v,h1,h2⟩:=ih;exact⟨j+1,v,by simp[Instr.findNow,q1,h1];omega,h2⟩
theorem wT{kk:Ky}{kv:Value}(hk:mq kk kv=true)(r:RV):∀(es:List ME)(bt:List MapEntry)(n:Nat)(l:List ME),bt.length=es.length->
  (∀(i:Nat)e,es[i]? =some e->∃e',bt[i]? =some e'/\e'.key=e.key/\dk ρ w e.val e'.val)->wt kv r es=some l->
  (Instr.findNow (gJ kk) kv bt n=some none/\l=es++ [⟨kv,r⟩])\/∃j e',Instr.findNow (gJ kk) kv bt n=some (some (n+j,e'.val))/\bt[j]? =some e'/\e'.key=kv/\l=es.set j ⟨kv,r⟩
 | [],[],n,o,_,_,h=>by simp[wt]at h;subst h;exact .inl ⟨rfl,rfl⟩
 | [],_::_,_,_,h,_,_=>by simp at h
 |_::_,[],_,_,h,_,_=>by simp at h
 |e::es,e'::bt,n,o,hl,hr,h=>by
  obtain⟨e0,h0,gj,cr⟩:=hr 0 e rfl;simp at h0;subst h0;simp only[wt]at h;cases hq:gz kv e.key with
  |none=>rw[hq]at h;cases h
  |some t=>
   obtain⟨q1,q2,q3⟩:=pP hk hq;rw[<-gj]at q1;cases t with
   |true=>
    rw[hq]at h;cases h;exact .inr ⟨0,e',by simp[Instr.findNow,q1],rfl,by rw[gj,q2 rfl],rfl⟩
   |false=>
    rw[hq]at h;simp only at h;split at h
    .rename_i l' AP;cases h;rcases wT hk r es bt (n+1) l' (by simpa using hl) (λi x hx=>by simpa using hr (i+1) x (by simpa using hx)) AP with⟨h1,rfl⟩|⟨j,e1,h1,h2,h3,rfl⟩
     .exact .inl ⟨by simpa[Instr.findNow,q1]using h1,rfl⟩
     .exact .inr ⟨j+1,e1,by simp[Instr.findNow,q1,h1];omega,by simpa using h2,h3,rfl⟩
    .cases h
theorem u5(hM:aA ρ m w){t:TypeId}{r:Option Value}(hr:r=none\/∃k n kt et,r=some (.int k n)/\P.underlying t=some (.map kt et))(h:step P .rM aZ m K):dh P (do pure (Next.value (<-Instr.makeMap t r))) ρ m w K:=by
 simp only[step,gP,cg]at h;let l:wj:=⟨w.heap.size,0,0,0⟩;have hn:=hM.n;have bQ:(ρ.push l).aI (.aj m.length)=l:=by rw[<-hn];exact ρ.gi l
 obtain⟨h1,h2⟩:=hM.push (bk:= .mp []) (l:=l) (eP.alloc w (.map #[] 0)) (Yj _) (by simp[l]) (by refine⟨#[],0,⟨?_,aC,aC⟩,rfl,aC⟩;rw[bQ];exact(heap_alloc w _).1) trivial
 refine⟨.value (.map (some w.heap.size)),.map (some w.heap.size),w.alloc (.map #[] 0),_,_,_,?_,.inl rfl,h,h1,⟨by simp[bJ.push,hn],by rw[bQ]⟩,h2⟩
 rcases hr with rfl|⟨k,n,kt,et,rfl,ht⟩
 .simp[Instr.makeMap]
 .simp[Instr.makeMap,run_underlying ht,asInt,asIntOf]
theorem tN{t:TypeId}{z:RV}(h:CE P t=some z):∃v,(zeroValue t).run P w= .ok v w/\dk ρ w z v:=by
 simp only[CE,U8,Pu]at h;obtain⟨i,hi,zv,Qs,h⟩:=h;refine⟨zv,by simp[zeroValue,typeInfo,hi,Qs],?_⟩
 split at h
 .rename_i cs;simp only[Pu]at h;obtain⟨zz,hz,h⟩:=h;cases h;obtain⟨h1,h2⟩:=fu (ρ:=ρ) (w:=w) hz;exact⟨cs.toList,aC,h1,h2⟩
 .simp only[Pu]at h;obtain⟨c,hc,h⟩:=h;cases h;exact qU hc
theorem u6(hM:aA ρ m w){c:CV}{v:Value}{es:List ME}(h:HA m c=some es)(hd:cf ρ w c v):
  (v= .map none/\es=[])\/∃b bt clock,v= .map (some b)/\w.heap[b]? =some (.map bt clock)/\AB ρ w es bt:=by
 unfold HA at h;split at h
 .rename_i id;split at h
  .rename_i es0 hb;cases h;rw[aV]at hb;obtain⟨aD,rfl⟩:=hd;obtain⟨bt,clock,h1,h2⟩:=hM.bk id _ hb;exact .inr ⟨_,bt,clock,rfl,h1.1,h2⟩
  .cases h
 .cases h;obtain⟨rfl,_⟩:=bH hd;exact .inl ⟨rfl,rfl⟩
 .cases h
theorem nP{kk:Ky}{kv:Value}(hk:mq kk kv=true):∀(es:List MO)(bt:List MapEntry)(n:Nat)(o:Option (Nat×MV)),bt.length=es.length->
  (∀(i:Nat)e,es[i]? =some e->∃e',bt[i]? =some e'/\e'.key=e.key)->iV kv es n=some o->
  match o with
  |none=>Instr.findNow (gJ kk) kv bt n=some none
  |some (j,mv)=>∃i e',j=n+i/\es[i]? =some ⟨kv,mv⟩/\bt[i]? =some e'/\Instr.findNow (gJ kk) kv bt n=some (some (n+i,e'.val))
 | [],[],n,o,_,_,h=>by simp[iV]at h;subst h;rfl
 | [],_::_,_,_,h,_,_=>by simp at h
 |_::_,[],_,_,h,_,_=>by simp at h
 |e::es,e'::bt,n,o,hl,hr,h=>by
  obtain⟨e0,h0,gj⟩:=hr 0 e rfl;simp at h0;subst h0;simp only[iV]at h;cases hq:gz kv e.key with
  |none=>rw[hq]at h;cases h
  |some t=>
   obtain⟨q1,q2,q3⟩:=pP hk hq;rw[<-gj]at q1;cases t with
   |true=>
    rw[hq]at h;cases h;have:=q2 rfl;obtain⟨k0,v0⟩:=e;exact⟨0,e',rfl,by simp at this|-;exact this.symm,rfl,by simp[Instr.findNow,q1]⟩
   |false=>
    rw[hq]at h;have ih:=nP hk es bt (n+1) o (by simpa using hl) (λi x hx=>by simpa using hr (i+1) x (by simpa using hx)) h
    cases o with
    |none=>simpa[Instr.findNow,q1]using ih
    |some r=>
     obtain⟨j,mv⟩:=r;obtain⟨i,e1,h1,h2,h3,h4⟩:=ih;exact⟨i+1,e1,om,h2,h3,by simp[Instr.findNow,q1,h4];omega⟩
theorem u7{kk:Ky}{kv:Value}(hk:mq kk kv=true)(r:MV):∀(es:List MO)(bt:List MapEntry)(n:Nat)(l:List MO),bt.length=es.length->
  (∀(i:Nat)e,es[i]? =some e->∃e',bt[i]? =some e'/\e'.key=e.key)->mU kv r es=some l->
  (Instr.findNow (gJ kk) kv bt n=some none/\l=es++ [⟨kv,r⟩])\/∃j e',Instr.findNow (gJ kk) kv bt n=some (some (n+j,e'.val))/\bt[j]? =some e'/\e'.key=kv/\l=es.set j ⟨kv,r⟩
 | [],[],n,o,_,_,h=>by simp[mU]at h;subst h;exact .inl ⟨rfl,rfl⟩
 | [],_::_,_,_,h,_,_=>by simp at h
 |_::_,[],_,_,h,_,_=>by simp at h
 |e::es,e'::bt,n,o,hl,hr,h=>by
  obtain⟨e0,h0,gj⟩:=hr 0 e rfl;simp at h0;subst h0;simp only[mU]at h;cases hq:gz kv e.key with
  |none=>rw[hq]at h;cases h
  |some t=>
   obtain⟨q1,q2,q3⟩:=pP hk hq;rw[<-gj]at q1;cases t with
   |true=>
    rw[hq]at h;cases h;exact .inr ⟨0,e',by simp[Instr.findNow,q1],rfl,by rw[gj,q2 rfl],rfl⟩
   |false=>
    rw[hq]at h;simp only at h;split at h
    .rename_i l' AP;cases h;rcases u7 hk r es bt (n+1) l' (by simpa using hl) (λi x hx=>by simpa using hr (i+1) x (by simpa using hx)) AP with⟨h1,rfl⟩|⟨j,e1,h1,h2,h3,rfl⟩
     .exact .inl ⟨by simpa[Instr.findNow,q1]using h1,rfl⟩
     .exact .inr ⟨j+1,e1,by simp[Instr.findNow,q1,h1];omega,by simpa using h2,h3,rfl⟩
    .cases h
theorem AQ{id esz:Nat}{es:List MO}{bt:Array MapEntry}(h:bt.size=es.length/\∀(i:Nat)e,es[i]? =some e->∃e',bt[i]? =some e'/\e'.key=e.key/\cu e.key=true/\bm ρ w (some (id,i,0)) (e.cc esz) e'.val):
  bt.toList.length=es.length/\∀(i:Nat)e,es[i]? =some e->∃e',bt.toList[i]? =some e'/\e'.key=e.key:=
 ⟨by simpa using h.1,λi e he=>let⟨e',h1,h2,_⟩:=h.2 i e he;⟨e',by simpa using h1,h2⟩⟩
theorem Qy(hM:aA ρ m w){t kt vt:TypeId}{z:RV}{kk:Ky}{kv:Value}{b:Bool}(ht:P.underlying t=some (.map kt vt))(hz:CE P vt=some z)(hk:oO P kt=some kk)(fA:mq kk kv=true){id esz:Nat}{es:List MO}{so:Option (List Nat×Nat)}(df:m[id]? =some (.mo esz es so))(h:ok (iV kv es 0) λo=>match o with
    |none=>K (uR b z none) m
    |some (_,.row n)=>K (uR b z (some (.one (.row n esz 0 none)))) m
    |some (i,.ei l)=>nJ m λn=>K (uR b z (some (.one (.row n esz 0 none)))) (gI (aX m id (.mo esz (aX es i ⟨kv,.row n⟩) so)) [.row esz (l.map λds=>ds.map .ah)])):
  dh P (do pure (Next.value (<-Instr.lookup t (.map (some (ρ.aI (.aj id)).b)) kv b))) ρ m w K:=by
 obtain⟨o,ho,hK⟩:=aW.1 h;have pQ:=m8 hk fA;have gj:=o4 fA;obtain⟨zv,LB,Jq⟩:=tN (ρ:=ρ) (w:=w) hz;obtain⟨bt,clock,⟨hb,qq⟩,eH,lZ⟩:=hM.bk id _ df;have ES:=AQ eH;have hf:=nP fA es bt.toList 0 o ES.1 ES.2 ho;have run:∀(o':Option (Nat×Value)),Instr.findNow (gJ kk) kv bt.toList 0=some o'->
    (Instr.lookup t (.map (some (ρ.aI (.aj id)).b)) kv b).run P w=((match o' with|some (_,v)=>(Pure.pure (v,true):Sem (Value×Bool))|none=>(do pure (<-zeroValue vt,false))).run P w).andThen λp w'=>.ok (if b then .tuple #[p.1,.bool p.2]else p.1) w':=by
  intro o' fl;cases o' with
  |none=>cases b<;>simp[Instr.lookup,run_underlying ht,Go.MapKept.run_getObj_map hb,run_checkKey pQ gj,run_findKey pQ fl,Result.andThen,LB]
  |some p=>cases b<;>simp[Instr.lookup,run_underlying ht,Go.MapKept.run_getObj_map hb,run_checkKey pQ gj,run_findKey pQ fl,Result.andThen]
 have jR:∀(ρ1:bJ)(v:Value)(r:RV)(t:Bool),dk ρ1 w r v->cf ρ1 w (.bx [r,.one (.ah (.val (.bool t)))]) (.tuple #[v,.bool t]):=λρ1 v r t hv=>
  ⟨[v,.bool t],rfl,rfl,λi r' hi=>by
   match i,hi with
   |0,hi=>cases hi;exact⟨v,rfl,hv⟩
   |1,hi=>cases hi;exact⟨_,rfl,.val _ rfl⟩⟩
 cases o with
 |none=>
  have h1:=run none hf;simp only[Sem.run_bind,LB,Result.andThen_ok,Sem.run_pure]at h1;cases b with
  |false=>exact dh.pure hM (v:=zv) (by rw[Sem.run_bind,h1];rfl) hK Jq
  |true=>exact dh.pure hM (v:= .tuple #[zv,.bool false]) (by rw[Sem.run_bind,h1];rfl) hK (jR _ zv z false Jq)
 |some r=>
  obtain⟨j,mv⟩:=r;obtain⟨i,e',hj,hi,mT,hf⟩:=hf;have hj:j=i:=om;subst hj;have h1:=run _ hf;simp only[Sem.run_pure,Result.andThen_ok]at h1;obtain⟨e1,g1,g2,g3,g4⟩:=eH.2 j _ hi;have:e1=e':=by rw[abz]at mT;rw[mT]at g1;cases g1;rfl
  subst this;cases mv with
  |row n=>
   have hv:dk ρ w (.one (.row n esz 0 none)) e1.val:=g4;cases b with
   |false=>exact dh.pure hM (v:=e1.val) (by rw[Sem.run_bind,h1];rfl) hK hv
   |true=>exact dh.pure hM (v:= .tuple #[e1.val,.bool true]) (by rw[Sem.run_bind,h1];rfl) hK (jR _ _ _ true hv)
  |ei l=>
   simp only[gP,cg,bb]at hK;obtain⟨U',jl,hX,hd⟩:=hM.aas df hi;have hv:dk U' w (.one (.row m.length esz 0 none)) e1.val:=hd _ g4;cases b with
   |false=>exact⟨_,e1.val,w,_,_,U',by rw[Sem.run_bind,h1];rfl,.inl rfl,hK,jl,hv,hX⟩
   |true=>exact⟨_,.tuple #[e1.val,.bool true],w,_,_,U',by rw[Sem.run_bind,h1];rfl,.inl rfl,hK,jl,jR _ _ _ true hv,hX⟩
theorem Jr{c:CV}{v:Value}{id esz:Nat}{es:List MO}{so:Option (List Nat×Nat)}(h:TS m c=some (id,esz,es,so))(hd:cf ρ w c v):m[id]? =some (.mo esz es so)/\v= .map (some (ρ.aI (.aj id)).b):=by
 unfold TS at h;split at h
 .split at h
  .rename_i hb;cases h;rw[aV]at hb;exact⟨hb,hd.2⟩
  .cases h
 .cases h
theorem Fx(hM:aA ρ m w)(hE:bn ρ w aZ a.tmps){t kt vt:TypeId}{z:RV}{kk:Ky}{x k:Operand}{x' k':X}{b:Bool}(ht:P.underlying t=some (.map kt vt))(hz:CE P vt=some z)(hk:oO P kt=some kk)(hx:bq x=some x')(MC:bq k=some k')(h:step P (.yN z kk x' k' b) aZ m K):dh P (do pure (Next.value (<-Instr.lookup t (a.eval x) (a.eval k) b))) ρ m w K:=by
 have rX:=aT hE hx;have yY:=aT hE MC;simp only[step]at h;generalize a.eval x=xv at rX|-;generalize a.eval k=kv at yY|-;generalize k'.ev aZ=kc at yY h;split at h
 .rename_i Js;rcases cq.1 h with⟨fA,h⟩|⟨_,h⟩
  case inr=>exact h.elim
  obtain⟨rfl,EP⟩:=bH yY (λe=>by subst e;cases kk<;>simp[kR]at fA)
  replace fA:=wQ fA EP;split at h
  .rename_i id esz es so hmo;obtain⟨hb,rfl⟩:=Jr hmo rX;exact Qy hM ht hz hk fA hb h
  obtain⟨es,ol,h⟩:=aW.1 h;obtain⟨o,ho,hK⟩:=aW.1 h;have pQ:=m8 hk fA;have gj:=o4 fA;obtain⟨zv,LB,Jq⟩:=tN (ρ:=ρ) (w:=w) hz;have jR:∀(v:Value)(r:RV)(t:Bool),dk ρ w r v->(b=true->cf ρ w (.bx [r,.one (.ah (.val (.bool t)))]) (.tuple #[v,.bool t])):=λv r t hv _=>
   ⟨[v,.bool t],rfl,rfl,λi r' hi=>by
    match i,hi with
    |0,hi=>cases hi;exact⟨v,rfl,hv⟩
    |1,hi=>cases hi;exact⟨_,rfl,.val _ rfl⟩⟩
  have go:∀(r:Option Nat)(bt:List MapEntry)(em:Bool),(∀(o':Option (Nat×Value)),Instr.findNow (gJ kk) kv bt 0=some o'->
    (Instr.lookup t (.map r) kv b).run P w=((match o' with|some (_,v)=>(Pure.pure (v,true):Sem (Value×Bool))|none=>(do pure (<-zeroValue vt,false))).run P w).andThen λp w'=>.ok (if b then .tuple #[p.1,.bool p.2]else p.1) w')->
    (bt.length=es.length/\∀(i:Nat)e,es[i]? =some e->∃e',bt[i]? =some e'/\e'.key=e.key/\dk ρ w e.val e'.val)->dh P (do pure (Next.value (<-Instr.lookup t (.map r) kv b))) ρ m w K:=by
   intro r bt em cP eH;have hf:=u4 (ρ:=ρ) (w:=w) fA es bt 0 o eH.1 eH.2 ho;cases o with
   |none=>
    have h1:=cP none hf;simp only[Sem.run_bind,LB,Result.andThen_ok,Sem.run_pure]at h1;cases b with
    |false=>exact dh.pure hM (v:=zv) (by rw[Sem.run_bind,h1];rfl) hK Jq
    |true=>exact dh.pure hM (v:= .tuple #[zv,.bool false]) (by rw[Sem.run_bind,h1];rfl) hK (jR zv z false Jq rfl)
   |some r=>
    obtain⟨j,v,hf,hv⟩:=hf;have h1:=cP _ hf;simp only[Sem.run_pure,Result.andThen_ok]at h1;cases b with
    |false=>exact dh.pure hM (v:=v) (by rw[Sem.run_bind,h1];rfl) hK hv
    |true=>exact dh.pure hM (v:= .tuple #[v,.bool true]) (by rw[Sem.run_bind,h1];rfl) hK (jR v r true hv rfl)
  rcases u6 hM ol rX with⟨rfl,rfl⟩|⟨r,bt,clock,rfl,hb,hl,hr⟩
  .refine go none [] true (λo' fl=>?_) ⟨rfl,aC⟩
   cases o' with
   |none=>cases b<;>simp[Instr.lookup,run_underlying ht,run_checkKey pQ gj,run_findKey pQ fl,Result.andThen,LB]
   |some p=>cases b<;>simp[Instr.lookup,run_underlying ht,run_checkKey pQ gj,run_findKey pQ fl,Result.andThen]
  .refine go (some r) bt.toList bt.isEmpty (λo' fl=>?_) ⟨by simpa using hl,λi e he=>by
     obtain⟨e',h1,h2⟩:=hr i e he;exact⟨e',by simpa using h1,h2⟩⟩
   cases o' with
   |none=>cases b<;>simp[Instr.lookup,run_underlying ht,Go.MapKept.run_getObj_map hb,run_checkKey pQ gj,run_findKey pQ fl,Result.andThen,LB]
   |some p=>cases b<;>simp[Instr.lookup,run_underlying ht,Go.MapKept.run_getObj_map hb,run_checkKey pQ gj,run_findKey pQ fl,Result.andThen]
 .rename_i cs;obtain⟨Js,W4,hA⟩:=aW.1 h;obtain⟨fA,hB⟩:kR kk Js=true/\_:=(cq.1 hA).elim (λh=>h) λh=>h.2.elim
  clear h hA;have:=wS W4 yY;subst this;obtain⟨kd,rfl⟩:=CW W4 fA;obtain⟨es,ol,h⟩:=aW.1 hB;obtain⟨o,ho,hK⟩:=aW.1 h;have Qz:∀e,(Instr.checkKey e 10000 kt kv).run P w= .ok () w:=λe=>CT hk fA e 9998
  have Jt:=wR (w:=w) hk kv;obtain⟨zv,LB,Jq⟩:=tN (ρ:=ρ) (w:=w) hz;have jR:∀(v:Value)(r:RV)(t:Bool),dk ρ w r v->(b=true->cf ρ w (.bx [r,.one (.ah (.val (.bool t)))]) (.tuple #[v,.bool t])):=λv r t hv _=>
   ⟨[v,.bool t],rfl,rfl,λi r' hi=>by
    match i,hi with
    |0,hi=>cases hi;exact⟨v,rfl,hv⟩
    |1,hi=>cases hi;exact⟨_,rfl,.val _ rfl⟩⟩
  have go:∀(r:Option Nat)(bt:List MapEntry)(em:Bool),(∀(o':Option (Nat×Value)),(Instr.findAsking kt kv bt 0).run P w= .ok o' w->
    (Instr.lookup t (.map r) kv b).run P w=((match o' with|some (_,v)=>(Pure.pure (v,true):Sem (Value×Bool))|none=>(do pure (<-zeroValue vt,false))).run P w).andThen λp w'=>.ok (if b then .tuple #[p.1,.bool p.2]else p.1) w')->
    (bt.length=es.length/\∀(i:Nat)e,es[i]? =some e->∃e',bt[i]? =some e'/\e'.key=e.key/\dk ρ w e.val e'.val)->dh P (do pure (Next.value (<-Instr.lookup t (.map r) kv b))) ρ m w K:=by
   intro r bt em cP eH;have hf:=CU (ρ:=ρ) (w:=w) hk fA es bt 0 o eH.1 eH.2 ho;cases o with
   |none=>
    have h1:=cP none hf;simp only[Sem.run_bind,LB,Result.andThen_ok,Sem.run_pure]at h1;cases b with
    |false=>exact dh.pure hM (v:=zv) (by rw[Sem.run_bind,h1];rfl) hK Jq
    |true=>exact dh.pure hM (v:= .tuple #[zv,.bool false]) (by rw[Sem.run_bind,h1];rfl) hK (jR zv z false Jq rfl)
   |some r=>
    obtain⟨j,v,hf,hv⟩:=hf;have h1:=cP _ hf;simp only[Sem.run_pure,Result.andThen_ok]at h1;cases b with
    |false=>exact dh.pure hM (v:=v) (by rw[Sem.run_bind,h1];rfl) hK hv
    |true=>exact dh.pure hM (v:= .tuple #[v,.bool true]) (by rw[Sem.run_bind,h1];rfl) hK (jR v r true hv rfl)
  rcases u6 hM ol rX with⟨rfl,rfl⟩|⟨r,bt,clock,rfl,hb,hl,hr⟩
  .refine go none [] true (λo' fl=>?_) ⟨rfl,aC⟩
   cases o' with
   |none=>cases b<;>simp[Instr.lookup,run_underlying ht,Qz,Jt,fl,Result.andThen,LB]
   |some p=>cases b<;>simp[Instr.lookup,run_underlying ht,Qz,Jt,fl,Result.andThen]
  .refine go (some r) bt.toList bt.isEmpty (λo' fl=>?_) ⟨by simpa using hl,λi e he=>by
     obtain⟨e',h1,h2⟩:=hr i e he;exact⟨e',by simpa using h1,h2⟩⟩
   cases o' with
   |none=>cases b<;>simp[Instr.lookup,run_underlying ht,Go.MapKept.run_getObj_map hb,Qz,Jt,fl,Result.andThen,LB]
   |some p=>cases b<;>simp[Instr.lookup,run_underlying ht,Go.MapKept.run_getObj_map hb,Qz,Jt,fl,Result.andThen]
 .exact h.elim
theorem CX{c:CV}{v:Value}{r:RV}(h:CB c=some r)(hd:cf ρ w c v):dk ρ w r v:=by
 unfold CB at h;split at h
 .cases h;exact hd
 .cases h
theorem ic.push{es:Array MapEntry}{clock:Nat}(h:ic es clock){k v:Value}:ic (es.push {key:=k,val:=v,born:=clock}) (clock+1):=by
 refine⟨λe he=>?_,?_⟩
 .simp only[Array.toList_push,abD,ab5]at he;rcases he with he|rfl
  .exact Nat.lt_succ_of_lt (h.1 e he)
  .exact ab6 _
 .rw[Array.toList_push,abn,List.nodup_append];refine⟨h.2,aC,λa ha b hb=>?_⟩
  obtain⟨e,he,rfl⟩:=aaz.1 ha;simp at hb;subst hb;exact Nat.ne_of_lt (h.1 e he)
theorem ic.mod{es:Array MapEntry}{clock:Nat}(h:ic es clock){j:Nat}{k v:Value}:ic (es.modify j λe=>{e with key:=k,val:=v}) clock:=by
 have e1:(es.modify j λe=>{e with key:=k,val:=v}).toList.map (·.born)=es.toList.map (·.born):=by
  apply abC;intro i;rw[Tr,Tr,abz,abz,abf];split
  .cases es[i]? <;>rfl
  .rfl
 refine⟨λe he=>?_,by rw[e1];exact h.2⟩
 have:e.born∈es.toList.map (·.born):=by rw[<-e1];exact aaz.2 ⟨e,he,rfl⟩
 obtain⟨x,hx,hb⟩:=aaz.1 this;rw[<-hb];exact h.1 x hx
theorem QA(hM:aA ρ m w){t kt vt:TypeId}{kk:Ky}{kv:Value}(ht:P.underlying t=some (.map kt vt))(hk:oO P kt=some kk)(fA:mq kk kv=true)(EP:cu kv=true){id esz:Nat}{es:List MO}(df:m[id]? =some (.mo esz es none)){n lo:Nat}{hi:Option Nat}{vv:Value}(hd:bm ρ w none (.row n esz lo hi) vv){ds:List (List Dt)}(SL:m[n]? =some (.row esz (ds.map λd=>d.map .ah))){l:List MO}(hl:mU kv (.ei (b7 ds lo hi)) es=some l)(hK:K .undef ((m.set n .aU).set id (.mo esz l none))):
  dh P (do Instr.mapUpdate t (.map (some (ρ.aI (.aj id)).b)) kv vv;pure Next.skip) ρ m w K:=by
 have pQ:=m8 hk fA;have gj:=o4 fA;obtain⟨bt,clock,⟨hb,qq⟩,eH,lZ⟩:=hM.bk id _ df;have ES:=AQ eH;have dq:=eH.1;have m9:∀o,eV w {w with heap:=w.heap.setIfInBounds (ρ.aI (.aj id)).b o} (ρ.aI (.aj id)).b:=λo=>
  ⟨λb dy=>(heap_set (o':=o) hb).2 b dy,aC,rfl,rfl,rfl⟩
 have iu:∀(oK:Array MapEntry)(gx j:Nat),ic oK gx->(Instr.mapUpdate t (.map (some (ρ.aI (.aj id)).b)) kv vv).run P w= .ok () {w with heap:=w.heap.setIfInBounds (ρ.aI (.aj id)).b (.map oK gx)}->
   l[j]? =some ⟨kv,.ei (b7 ds lo hi)⟩->(∀x,x≠j->l[x]? =es[x]?)->oK.size=l.length->(∀x,x≠j->oK[x]? =bt[x]?)->(∃e,oK[j]? =some e/\e.key=kv/\e.val=vv)->
   dh P (do Instr.mapUpdate t (.map (some (ρ.aI (.aj id)).b)) kv vv;pure Next.skip) ρ m w K:=by
  intro oK gx j MD cP h1 h2 h3 h4 h5;obtain⟨U',jl,hX⟩:=hM.rest df SL h1 EP h2 hd hb (m9 (.map oK gx)) (heap_set hb).1 MD h3 h4 h5;refine⟨.skip,Go.undef,_,.undef,_,U',?_,.inr ⟨rfl,rfl⟩,hK,jl,rfl,hX⟩;rw[Sem.run_bind,cP];rfl
 rcases u7 fA (.ei (b7 ds lo hi)) es bt.toList 0 l ES.1 ES.2 hl with⟨hf,rfl⟩|⟨j,e',hf,hj,ET,rfl⟩
 .refine iu (bt.push {key:=kv,val:=vv,born:=clock}) (clock+1) es.length (ic.push qq) ?_ aC (λx hx=>?_) (by simp[dq]) (λx hx=>?_) ⟨{key:=kv,val:=vv,born:=clock},by rw[acV,if_pos dq.symm],rfl,rfl⟩
  .simp[Instr.mapUpdate,run_underlying ht,Go.MapKept.run_getObj_map hb,run_checkKey pQ gj,run_findKey pQ hf,run_setObj_map _ hb,Result.andThen]
  .rw[List.getElem?_append];split
   .rfl
   .rename_i h;rw[aaH (by simp;omega),aaH om]
  .rw[acV,if_neg om]
 .have oB:bt[j]? =some e':=by simpa using hj
  have ez:=(aaF.1 oB).1;refine iu (bt.modify j λe=>{e with key:=kv,val:=vv}) clock j (ic.mod qq) ?_ (TK om) (λx hx=>U9 (Ne.symm hx)) (by simp[dq]) (λx hx=>by rw[abf,if_neg (Ne.symm hx)]) ⟨{e' with key:=kv,val:=vv},by rw[abf,if_pos rfl,oB];rfl,rfl,rfl⟩
  .rw[aa6]at hf;simp[Instr.mapUpdate,run_underlying ht,Go.MapKept.run_getObj_map hb,run_checkKey pQ gj,run_findKey pQ hf,run_setObj_map _ hb,Result.andThen,oB,ET,run_keyThatStays gj]
theorem wU(hM:aA ρ m w)(hE:bn ρ w aZ a.tmps){t kt vt:TypeId}{kk:Ky}{x k v:Operand}{x' k' v':X}(ht:P.underlying t=some (.map kt vt))(hk:oO P kt=some kk)(hx:bq x=some x')(MC:bq k=some k')(hvx:bq v=some v')(h:step P (.tz kk x' k' v') aZ m K):dh P (do Instr.mapUpdate t (a.eval x) (a.eval k) (a.eval v);pure Next.skip) ρ m w K:=by
 have rX:=aT hE hx;have yY:=aT hE MC;have p0:=aT hE hvx;simp only[step]at h;generalize a.eval x=xv at rX|-;generalize a.eval k=kv at yY|-;generalize a.eval v=vv at p0|-;generalize x'.ev aZ=xc at rX h;split at h
 .rename_i id;generalize k'.ev aZ=kc at yY h;split at h
  .rename_i Js;rcases cq.1 h with⟨fA,h⟩|⟨_,h⟩
   case inr=>exact h.elim
   obtain⟨rfl,EP⟩:=bH yY (λe=>by subst e;cases kk<;>simp[kR]at fA)
   replace fA:=wQ fA EP;obtain⟨bk,df,h⟩:=aW.1 h;rw[aV]at df;split at h
   case h_3=>exact h.elim
   case h_2=>
    rename_i esz es;obtain⟨aD,rfl⟩:=rX;generalize v'.ev aZ=vc at p0 h;split at h
    .rename_i n e1 lo hi;obtain⟨b2,fK,h⟩:=aW.1 h;rw[aV]at fK;split at h
     .rename_i e2 rows;rcases cq.1 h with⟨ol,h⟩|⟨_,h⟩
      case inr=>exact h.elim
      obtain⟨ds,l,rfl,hl,hK⟩:=h;rw[aae]at ol;have h1:=aau ol.1;have h2:=aau ol.2;subst h1 h2;rw[bb,bb]at hK;exact QA hM ht hk fA EP df p0 fK hl hK
     .exact h.elim
    .exact h.elim
   rename_i es;obtain⟨r,hr,h⟩:=aW.1 h;obtain⟨l,hl,hK⟩:=aW.1 h;rw[bb]at hK;have pQ:=m8 hk fA;have gj:=o4 fA;have QB:=CX hr p0;obtain⟨aD,rfl⟩:=rX;obtain⟨bt,clock,⟨hb,qq⟩,dq,eH⟩:=hM.bk id _ df;have m9:∀o,eV w {w with heap:=w.heap.setIfInBounds (ρ.aI (.aj id)).b o} (ρ.aI (.aj id)).b:=λo=>
    ⟨λb dy=>(heap_set (o':=o) hb).2 b dy,aC,rfl,rfl,rfl⟩
   have b9:Live ρ m (.aj id):=⟨_,df,aC,by rintro⟨_,_,e⟩;cases e⟩
   have iu:∀(oK:Array MapEntry)(gx:Nat),ic oK gx->(Instr.mapUpdate t (.map (some (ρ.aI (.aj id)).b)) kv vv).run P w= .ok () {w with heap:=w.heap.setIfInBounds (ρ.aI (.aj id)).b (.map oK gx)}->
     (iM ρ w ρ {w with heap:=w.heap.setIfInBounds (ρ.aI (.aj id)).b (.map oK gx)}->AB ρ {w with heap:=w.heap.setIfInBounds (ρ.aI (.aj id)).b (.map oK gx)} l oK)->dh P (do Instr.mapUpdate t (.map (some (ρ.aI (.aj id)).b)) kv vv;pure Next.skip) ρ m w K:=by
    intro oK gx MD cP hmr;obtain⟨jl,hX⟩:=hM.LA (zo:= .mp l) df b9 (m9 _) (λg=>⟨oK,gx,⟨(heap_set hb).1,MD⟩,hmr g⟩) (by
     rintro i' j' esz e ⟨b2,fK,ib⟩;rw[TK (by rw[<-hM.n];exact aD)]at fK
     cases fK;cases ib)
    refine⟨.skip,Go.undef,_,.undef,_,ρ,?_,.inr ⟨rfl,rfl⟩,hK,jl,rfl,hX⟩;rw[Sem.run_bind,cP];rfl
   rcases wT (ρ:=ρ) (w:=w) fA r es bt.toList 0 l (by simpa using dq) (λi e he=>by
     obtain⟨e',h1,h2⟩:=eH i e he;exact⟨e',by simpa using h1,h2⟩) hl with⟨hf,rfl⟩|⟨j,e',hf,hj,ET,rfl⟩
   .refine iu (bt.push {key:=kv,val:=vv,born:=clock}) (clock+1) (ic.push qq) ?_ λg=>⟨by simp[dq],λi e he=>?_⟩
    .simp[Instr.mapUpdate,run_underlying ht,Go.MapKept.run_getObj_map hb,run_checkKey pQ gj,run_findKey pQ hf,run_setObj_map _ hb,Result.andThen]
    .rcases aag i es.length with h1|h1
     .rw[aad h1]at he;obtain⟨e',h2,h3,h4⟩:=eH i e he;exact⟨e',by rw[acV,if_neg om];exact h2,h3,h4.cn g⟩
     .have hi:=(Ki.1 he).1;simp at hi;have lY:i=es.length:=om;subst lY;simp at he;subst he;exact⟨_,by rw[acV,if_pos dq.symm],rfl,QB.cn g⟩
   .have oB:bt[j]? =some e':=by simpa using hj
    have ez:=(aaF.1 oB).1;refine iu (bt.modify j λe=>{e with key:=kv,val:=vv}) clock (ic.mod qq) ?_ λg=>⟨by simp[dq],λi e he=>?_⟩
    .rw[aa6]at hf;simp[Instr.mapUpdate,run_underlying ht,Go.MapKept.run_getObj_map hb,run_checkKey pQ gj,run_findKey pQ hf,run_setObj_map _ hb,Result.andThen,oB,ET,run_keyThatStays gj]
    .rw[abb]at he;by_cases p5:j=i
     .subst p5;rw[if_pos rfl,if_pos om]at he;cases he;exact⟨{e' with key:=kv,val:=vv},by rw[abf,if_pos rfl,oB];rfl,rfl,QB.cn g⟩
     .rw[if_neg p5]at he;obtain⟨e2,h2,h3,h4⟩:=eH i e he;exact⟨e2,by rw[abf,if_neg p5];exact h2,h3,h4.cn g⟩
  .rename_i cs;obtain⟨Js,W4,hA⟩:=aW.1 h;obtain⟨fA,hB⟩:kR kk Js=true/\_:=(cq.1 hA).elim (λh=>h) λh=>h.2.elim
   clear h hA;have:=wS W4 yY;subst this;obtain⟨kd,rfl⟩:=CW W4 fA;have Qz:∀e,(Instr.checkKey e 10000 kt kv).run P w= .ok () w:=λe=>CT hk fA e 9998
   have Jt:=wR (w:=w) hk kv;obtain⟨bk,df,h⟩:=aW.1 hB;rw[aV]at df;split at h
   case h_2=>exact h.elim
   rename_i es;obtain⟨r,hr,h⟩:=aW.1 h;obtain⟨l,hl,hK⟩:=aW.1 h;rw[bb]at hK;have QB:=CX hr p0;obtain⟨aD,rfl⟩:=rX;obtain⟨bt,clock,⟨hb,qq⟩,dq,eH⟩:=hM.bk id _ df;have m9:∀o,eV w {w with heap:=w.heap.setIfInBounds (ρ.aI (.aj id)).b o} (ρ.aI (.aj id)).b:=λo=>
    ⟨λb dy=>(heap_set (o':=o) hb).2 b dy,aC,rfl,rfl,rfl⟩
   have b9:Live ρ m (.aj id):=⟨_,df,aC,by rintro⟨_,_,e⟩;cases e⟩
   have iu:∀(oK:Array MapEntry)(gx:Nat),ic oK gx->(Instr.mapUpdate t (.map (some (ρ.aI (.aj id)).b)) kv vv).run P w= .ok () {w with heap:=w.heap.setIfInBounds (ρ.aI (.aj id)).b (.map oK gx)}->
     (iM ρ w ρ {w with heap:=w.heap.setIfInBounds (ρ.aI (.aj id)).b (.map oK gx)}->AB ρ {w with heap:=w.heap.setIfInBounds (ρ.aI (.aj id)).b (.map oK gx)} l oK)->dh P (do Instr.mapUpdate t (.map (some (ρ.aI (.aj id)).b)) kv vv;pure Next.skip) ρ m w K:=by
    intro oK gx MD cP hmr;obtain⟨jl,hX⟩:=hM.LA (zo:= .mp l) df b9 (m9 _) (λg=>⟨oK,gx,⟨(heap_set hb).1,MD⟩,hmr g⟩) (by
     rintro i' j' esz e ⟨b2,fK,ib⟩;rw[TK (by rw[<-hM.n];exact aD)]at fK
     cases fK;cases ib)
    refine⟨.skip,Go.undef,_,.undef,_,ρ,?_,.inr ⟨rfl,rfl⟩,hK,jl,rfl,hX⟩;rw[Sem.run_bind,cP];rfl
   rcases HR (ρ:=ρ) (w:=w) hk fA r es bt.toList 0 l (by simpa using dq) (λi e he=>by
     obtain⟨e',h1,h2⟩:=eH i e he;exact⟨e',by simpa using h1,h2⟩) hl with⟨hf,rfl⟩|⟨j,e',hf,hj,ET,rfl⟩
   .refine iu (bt.push {key:=kv,val:=vv,born:=clock}) (clock+1) (ic.push qq) ?_ λg=>⟨by simp[dq],λi e he=>?_⟩
    .simp[Instr.mapUpdate,run_underlying ht,Go.MapKept.run_getObj_map hb,Qz,Jt,hf,run_setObj_map _ hb,Result.andThen]
    .rcases aag i es.length with h1|h1
     .rw[aad h1]at he;obtain⟨e',h2,h3,h4⟩:=eH i e he;exact⟨e',by rw[acV,if_neg om];exact h2,h3,h4.cn g⟩
     .have hi:=(Ki.1 he).1;simp at hi;have lY:i=es.length:=om;subst lY;simp at he;subst he;exact⟨_,by rw[acV,if_pos dq.symm],rfl,QB.cn g⟩
   .have oB:bt[j]? =some e':=by simpa using hj
    have ez:=(aaF.1 oB).1;refine iu (bt.modify j λe=>{e with key:=kv,val:=vv}) clock (ic.mod qq) ?_ λg=>⟨by simp[dq],λi e he=>?_⟩
    .rw[aa6]at hf;simp[Instr.mapUpdate,run_underlying ht,Go.MapKept.run_getObj_map hb,Qz,Jt,hf,run_setObj_map _ hb,Result.andThen,oB,ET,MB fA]
    .rw[abb]at he;by_cases p5:j=i
     .subst p5;rw[if_pos rfl,if_pos om]at he;cases he;exact⟨{e' with key:=kv,val:=vv},by rw[abf,if_pos rfl,oB];rfl,rfl,QB.cn g⟩
     .rw[if_neg p5]at he;obtain⟨e2,h2,h3,h4⟩:=eH i e he;exact⟨e2,by rw[abf,if_neg p5];exact h2,h3,h4.cn g⟩
  .exact h.elim
 .exact h.elim
theorem aA.still(hM:aA ρ m w){id:Nat}{es:List ME}(hb:m[id]? =some (.mp es)):aA {ρ with S:=λb=>ρ.S b\/b=(ρ.aI (.aj id)).b} (m.set id .aU) w/\Ext ρ m w {ρ with S:=λb=>ρ.S b\/b=(ρ.aI (.aj id)).b} (m.set id .aU) w:=by
 have aD:id<m.length:=(Ki.1 hb).1;have b9:Live ρ m (.aj id):=⟨_,hb,aC,by rintro⟨_,_,e⟩;cases e⟩
 have g:iM ρ w {ρ with S:=λb=>ρ.S b\/b=(ρ.aI (.aj id)).b} w:=⟨Yj _,λ_ _=>rfl,λ_ h=>.inl h,λb hb=>rfl⟩
 have get:∀{k:Nat}{b:Bk},(m.set id .aU)[k]? =some b->(k≠id/\m[k]? =some b)\/(k=id/\b= .aU):=by
  intro k b hb;by_cases hk:k=id
  .subst hk;rw[TK aD]at hb;exact .inr ⟨rfl,by simpa using hb.symm⟩
  .rw[U9 (Ne.symm hk)]at hb;exact .inl ⟨hk,hb⟩
 have ew:∀{k i j esz e},dZ (m.set id .aU) k i j esz e->dZ m k i j esz e:=by
  intro k i j esz e ho;obtain⟨b2,hb,ho⟩:=ho;rcases get hb with⟨_,hb⟩|⟨_,hb⟩
  .exact⟨b2,hb,ho⟩
  .subst hb;cases ho
 have dx:∀k,Live {ρ with S:=λb=>ρ.S b\/b=(ρ.aI (.aj id)).b} (m.set id .aU) k->Live ρ m k/\k≠.aj id:=by
  intro k hk;cases k with
  |aj k=>
   obtain⟨b,hb,hn,bg⟩:=hk;rcases get hb with⟨dy,hb⟩|⟨_,rfl⟩
   .exact⟨⟨b,hb,hn,bg⟩,λe=>by cases e;exact dy rfl⟩
   .exact absurd rfl hn
  |sub k i j=>
   obtain⟨⟨esz,e,ho⟩,bg⟩:=hk;exact⟨⟨⟨esz,e,ew ho⟩,bg⟩,λe=>by cases e⟩
 refine⟨⟨by simp[hM.n],?_,?_,λk k' hk gh=>hM.inj k k' (dx k hk).1 (dx k' gh).1,?_,?_⟩,
  ⟨Yj _,λ_ _=>rfl,λ_ h=>.inl h,?_,λk hk=>.inr ⟨k,(dx k hk).1,rfl⟩,λ_ _ _=>rfl,Yj _,rfl,rfl,rfl⟩⟩
 .rintro b (h|rfl)
  .exact hM.S b h
  .exact(hM.aO _ b9).1
 .intro k hk;obtain⟨h1,h2⟩:=dx k hk;refine⟨(hM.aO k h1).1,?_⟩;rintro(h|h)
  .exact(hM.aO k h1).2 h
  .exact h2 (hM.inj k _ h1 b9 h)
 .intro k b hb;rcases get hb with⟨_,hb⟩|⟨_,rfl⟩
  .exact(hM.bk k b hb).cn g (hM.eT hb) λ_ _=>rfl
  .trivial
 .intro k i j esz e ho bg;exact(hM.ei k i j esz e (ew ho) bg).cn g rfl
 .rintro b (h|rfl)
  .exact .inl h
  .exact .inr (.inr ⟨_,b9,rfl⟩)
theorem rY:∀{es:List ME}{l:List (Value×Value)},rO es=some l->∀(bt:List MapEntry),bt.length=es.length->(∀(i:Nat)e,es[i]? =some e->∃e',bt[i]? =some e'/\e'.key=e.key/\dk ρ w e.val e'.val)->
  bt.map (λe=>(e.key,e.val))=l/\∀p,p∈l->cu p.1=true/\cu p.2=true
 | [],l,h,bt,hl,hr=>by
  simp[rO]at h;subst h;have:bt=[]:=adz.1 (by simpa using hl)
  subst this;simp
 |e::r,l,h,[],hl,hr=>by simp at hl
 |e::r,l,h,e'::r',hl,hr=>by
  obtain⟨k,v⟩:=e;unfold rO at h;split at h
  .rename_i heq;cases heq
  .rename_i k1 v1 r1 heq;cases heq;split at h
   .rename_i hp;rw[aae]at hp;obtain⟨l1,zs,rfl⟩:=aaB.1 h;obtain⟨a1,a2⟩:=rY zs r' (by simpa using hl) (λi e he=>by simpa using hr (i+1) e (by simpa using he))
    obtain⟨e0,h0,h1,h2⟩:=hr 0 _ rfl;simp only[acK,aaA]at h0;subst h0;have h3:e'.val=v1:=(bH (ρ:=ρ) (w:=w) h2 (λe=>by subst e;simp[cu]at hp)).1
    refine⟨by rw[aaR,a1,h1,h3],λp HP=>?_⟩
    rcases aaL.1 HP with rfl|HP
    .exact hp
    .exact a2 p HP
   .cases h
  .cases h
theorem Ud(hM:aA ρ m w){t kt vt:TypeId}(ht:P.underlying t=some (.map kt vt)){id esz:Nat}{es:List MO}(df:m[id]? =some (.mo esz es none))(h:∀(st:List Nat)(ip:Nat),st.length=es.length->st.Nodup->(∀s,s∈st->s<ip)->nJ m λn=>K (.rv (.one (.ptr n 0))) (gI (aX m id (.mo esz es (some (st,ip)))) [.iw id ip []])):
  dh P (do pure (Next.value (<-Instr.range t (.map (some (ρ.aI (.aj id)).b))))) ρ m w K:=by
 obtain⟨bt,clock,⟨hb,qq⟩,eH,lZ⟩:=hM.bk id _ df;have p4:id<m.length:=(Ki.1 df).1;have h:=h (bt.toList.map (·.born)) clock (by simpa using eH.1) qq.2 (λs hs=>by obtain⟨e,he,rfl⟩:=aaz.1 hs;exact qq.1 e he)
 rw[gP,cg,bb]at h;have b9:Live ρ m (.aj id):=⟨_,df,aC,by rintro⟨_,_,e⟩;cases e⟩
 obtain⟨rZ,mG⟩:=hM.LA (zo:= .mo esz es (some (bt.toList.map (·.born),clock))) df b9 (eV.refl w _) (λg=>⟨bt,clock,⟨hb,qq⟩,eH,λst ip e=>by cases e;exact⟨rfl,rfl⟩⟩) (by rintro i' j' rP e ⟨b2,fK,ib⟩;rw[TK p4]at fK;cases fK;obtain⟨k,hi,rfl,rfl⟩:=ib.Sz;exact⟨_,df,.mo hi⟩)
 let lo:wj:=⟨w.heap.size,0,0,0⟩;have hn:=rZ.n;have bQ:(ρ.push lo).aI (.aj (m.set id (.mo esz es (some (bt.toList.map (·.born),clock)))).length)=lo:=by rw[<-hn];exact bJ.gi _ lo
 obtain⟨h1,h2⟩:=rZ.push (bk:= .iw id clock []) (l:=lo) (eP.alloc w (.mapIter (some (ρ.aI (.aj id)).b) clock #[] clock)) (Yj _) (by simp[lo]) (by
  refine⟨by show id<ρ.n+1;rw[hM.n];omega,by rw[bQ],#[],?_,rfl⟩
  rw[bQ,ρ.eU lo (k:= .aj id) (by show id<ρ.n;rw[hM.n];exact p4)]
  exact(heap_alloc w _).1) trivial
 refine⟨_,.pointer (some ⟨w.heap.size,0,none⟩),w.alloc (.mapIter (some (ρ.aI (.aj id)).b) clock #[] clock),_,_,_,?_,.inl rfl,h,h1,?_,mG.trans h2⟩
 .rw[Sem.run_bind,run_range_map w t kt vt (ρ.aI (.aj id)).b bt clock ht hb];rfl
 .have bQ:(ρ.push lo).aI (.aj m.length)=lo:=by rw[<-hM.n];exact bJ.gi ρ lo
  refine⟨by show m.length<ρ.n+1;rw[hM.n];omega,?_⟩
  rw[bQ]
theorem Ue(hM:aA ρ m w){ty:TypeId}{id mid ip:Nat}{seen:List Nat}(df:m[id]? =some (.iw mid ip seen)){esz:Nat}{es:List MO}{st:List Nat}{c2:Nat}(Uf:m[mid]? =some (.mo esz es (some (st,c2))))(hc:c2=ip)(MF:(∀s,s∈st->s∈seen)->K (.bx [.one (.ah (.val (.bool false)))]) (aX m mid (.mo esz es none)))(oq:∀(i:Nat)(x:MO)(s:Nat),es[i]? =some x->st[i]? =some s->¬s∈seen->K (.bx [.one (.ah (.val (.bool true))),.one (.ah (.val x.key)),.one .aH]) (aX m id (.iw mid ip (s::seen)))):
  dh P (do pure (Next.value (<-Instr.next (.pointer (some ⟨(ρ.aI (.aj id)).b,0,none⟩)) false ty))) ρ m w K:=by
 subst hc;obtain⟨W5,h2,s,h3,Fv⟩:=hM.bk id _ df;obtain⟨bt,clock,⟨hb,qq⟩,eH,lZ⟩:=hM.bk mid _ Uf;obtain⟨iB,MG⟩:=lZ _ _ rfl;clear lZ;have lZ:=MG;subst iB;have p4:id<m.length:=(Ki.1 df).1;have W6:mid<m.length:=(Ki.1 Uf).1;have b9:Live ρ m (.aj id):=⟨_,df,aC,by rintro⟨_,_,e⟩;cases e⟩
 have Ug:Live ρ m (.aj mid):=⟨_,Uf,aC,by rintro⟨_,_,e⟩;cases e⟩
 have iv:∀x,x∈seen↔x∈s.toList:=λx=>by rw[<-Fv];simp
 rcases run_next_at (P:=P) w ty (ρ.aI (.aj id)).b (ρ.aI (.aj mid)).b clock clock s bt clock h3 hb qq.1 (Yj _)with⟨h0,cP⟩|⟨e,he,w1,Uh,cP⟩
 .have hK:=MF λx hx=>by
   rw[iv];rw[<-lZ]at hx;obtain⟨e,he,rfl⟩:=aaz.1 hx;have VX:(leftOf bt s).toList=[]:=adz.1 (by simpa using h0)
   have VX:(bt.filter λe=>!s.contains e.born).toList=[]:=VX
   rw[Array.toList_filter,List.filter_eq_nil_iff]at VX;have:=VX e he;simpa using this
  rw[bb]at hK;obtain⟨rZ,mG⟩:=hM.LA (zo:= .mo esz es none) Uf Ug (eV.refl w _) (λg=>⟨bt,clock,⟨hb,qq⟩,eH,aC⟩) (by rintro i' j' rP e ⟨b2,fK,ib⟩;rw[TK W6]at fK;cases fK;obtain⟨k,hi,rfl,rfl⟩:=ib.Sz;exact⟨_,Uf,.mo hi⟩)
  refine⟨_,.tuple #[.bool false],w,_,_,ρ,by rw[Sem.run_bind,cP];rfl,.inl rfl,hK,rZ,⟨[.bool false],rfl,rfl,λi r hi=>?_⟩,mG⟩
  match i,hi with
  |0,hi=>cases hi;exact⟨_,rfl,.val _ rfl⟩
 .have he:e∈(bt.filter λe=>!s.contains e.born).toList:=he
  rw[Array.toList_filter,acL]at he;obtain⟨hem,hns⟩:=he;obtain⟨i,hi⟩:=aab hem;have vI:i<es.length:=by have:=(Ki.1 hi).1;rw[<-eH.1];simpa using this
  obtain⟨x,hx⟩:∃x,es[i]? =some x:=⟨_,vR vI⟩;obtain⟨e1,g1,g2,g3,g4⟩:=eH.2 i x hx;have:e1=e:=by rw[<-abz,hi]at g1;cases g1;rfl
  subst this;have hK:=oq i x e1.born hx (by rw[<-lZ,Tr,hi];rfl) (by rw[iv];simpa using hns)
  rw[bb]at hK;have hh:w1.heap=w.heap/\w1.os=w.os/\w1.tape=w.tape/\w1.output=w.output:=by rcases Uh with rfl|rfl<;>exact⟨rfl,rfl,rfl,rfl⟩
  have QE:(ρ.aI (.aj id)).b<w.heap.size:=(hM.aO _ b9).1;have m9:eV w (Go.ChangeMaps.setBlock w1 (ρ.aI (.aj id)).b (.mapIter (some (ρ.aI (.aj mid)).b) clock (s.push e1.born) clock)) (ρ.aI (.aj id)).b:=
   ⟨λb dy=>by show(w1.heap.setIfInBounds _ _)[b]? =_;rw[hh.1,acM (Ne.symm dy)],by show(w1.heap.setIfInBounds _ _).size=_;rw[Array.size_setIfInBounds,hh.1],hh.2.1,hh.2.2.1,hh.2.2.2⟩
  obtain⟨jl,hX⟩:=hM.LA (zo:= .iw mid clock (e1.born::seen)) df b9 m9 (λg=>⟨W5,h2,s.push e1.born,by
    show(w1.heap.setIfInBounds _ _)[_]? =_;rw[hh.1,ab3 QE],by simp[Fv]⟩) (by
   rintro i' j' rP e ⟨b2,fK,ib⟩;rw[TK p4]at fK;cases fK;cases ib)
  have MH:=(g4.one:e1.val.oneCell'=true);refine⟨_,.tuple #[.bool true,e1.key,e1.val],_,_,_,ρ,by rw[Sem.run_bind,cP];rfl,.inl rfl,hK,jl,⟨[.bool true,e1.key,e1.val],rfl,rfl,λi r hi=>?_⟩,hX⟩
  match i,hi with
  |0,hi=>cases hi;exact⟨_,rfl,.val _ rfl⟩
  |1,hi=>cases hi;exact⟨_,rfl,by rw[g2];exact .val _ g3⟩
  |2,hi=>cases hi;exact⟨_,rfl,MH⟩
theorem Ui(hM:aA ρ m w){id mid ip:Nat}{s:Nat}{seen:List Nat}(df:m[id]? =some (.iw mid ip (s::seen))){esz:Nat}{es:List MO}{st:List Nat}{c2:Nat}(Uf:m[mid]? =some (.mo esz es (some (st,c2))))(hc:c2=ip){i:Nat}{x:MO}(hx:es[i]? =some x)(hs:st[i]? =some s)(hK:K (.bx [.one (.ah (.val x.key)),.one .aH]) m):
  dh P (do pure (Next.value (<-Instr.entry (.pointer (some ⟨(ρ.aI (.aj id)).b,0,none⟩))))) ρ m w K:=by
 subst hc;obtain⟨W5,h2,s0,h3,Fv⟩:=hM.bk id _ df;obtain⟨bt,clock,⟨hb,qq⟩,eH,lZ⟩:=hM.bk mid _ Uf;obtain⟨iB,MG⟩:=lZ _ _ rfl;clear lZ;have lZ:=MG;subst iB;obtain⟨e,g1,g2,g3,g4⟩:=eH.2 i x hx;have ol:e.born=s:=by rw[<-lZ,Tr,abz,g1]at hs;simpa using hs
 have hs0:s0=(Array.mk seen.reverse).push e.born:=by apply Array.toList_inj.1;have:=congrArg List.reverse Fv;simp at this;simp[this,ol]
 have cP:=run_entry_at (P:=P) w (ρ.aI (.aj id)).b (ρ.aI (.aj mid)).b clock (Array.mk seen.reverse) bt clock e (by rw[<-hs0];exact h3) hb (by rw[<-abz]at g1;exact Tu g1) qq.2
 have MH:=(g4.one:e.val.oneCell'=true);refine dh.pure hM (v:= .tuple #[e.key,e.val]) (by rw[Sem.run_bind,cP];rfl) hK ⟨[e.key,e.val],rfl,rfl,λi r hi=>?_⟩
 match i,hi with
 |0,hi=>cases hi;exact⟨_,rfl,by rw[g2];exact .val _ g3⟩
 |1,hi=>cases hi;exact⟨_,rfl,MH⟩
theorem Fy(hM:aA ρ m w)(hE:bn ρ w aZ a.tmps){t kt vt t2:TypeId}{ats:Array TypeId}{kk:Ky}{x k:Operand}{x' k':X}(W7:ats[0]? =some t)(ht:P.underlying t=some (.map kt vt))(hk:oO P kt=some kk)(hx:bq x=some x')(MC:bq k=some k')(h:step P (.L5 kk x' k') aZ m K):dh P (do pure (Next.value (<-Builtin.delete_ ats t2 #[a.eval x,a.eval k]))) ρ m w K:=by
 have rX:=aT hE hx;have yY:=aT hE MC;simp only[step]at h;generalize a.eval x=xv at rX|-;generalize a.eval k=kv at yY|-;generalize x'.ev aZ=xc at rX h;split at h
 .rename_i id;generalize k'.ev aZ=kc at yY h;split at h
  .rename_i Js;rcases cq.1 h with⟨fA,h⟩|⟨_,h⟩
   case inr=>exact h.elim
   obtain⟨rfl,EP⟩:=bH yY (λe=>by subst e;cases kk<;>simp[kR]at fA)
   replace fA:=wQ fA EP;obtain⟨bk,df,h⟩:=aW.1 h;rw[aV]at df;split at h
   .rename_i esz es st ip;obtain⟨o,ho,h⟩:=aW.1 h;have pQ:=m8 hk fA;have gj:=o4 fA;obtain⟨aD,rfl⟩:=rX;obtain⟨bt,clock,⟨hb,qq⟩,eH,lZ⟩:=hM.bk id _ df;obtain⟨iB,MG⟩:=lZ _ _ rfl;clear lZ;have lZ:=MG;subst iB;have ES:=AQ eH;have hf:=nP fA es bt.toList 0 o ES.1 ES.2 ho;have b9:Live ρ m (.aj id):=⟨_,df,aC,by rintro⟨_,_,e⟩;cases e⟩
    have m9:∀o,eV w {w with heap:=w.heap.setIfInBounds (ρ.aI (.aj id)).b o} (ρ.aI (.aj id)).b:=λo=>
     ⟨λb dy=>(heap_set (o':=o) hb).2 b dy,aC,rfl,rfl,rfl⟩
    have p4:id<m.length:=(Ki.1 df).1;cases o with
    |none=>
     have jC:m.set id (.mo esz es (some (st,clock)))=m:=by
      apply abC;intro i;by_cases hh:id=i
      .subst hh;rw[TK p4,df]
      .rw[U9 hh]
     have cP:(Builtin.delete_ ats t2 #[.map (some (ρ.aI (.aj id)).b),kv]).run P w= .ok (.tuple #[]) {w with heap:=w.heap.setIfInBounds (ρ.aI (.aj id)).b (.map bt clock)}:=by simp[Builtin.delete_,W7,run_underlying ht,Go.MapKept.run_getObj_map hb,run_checkKey pQ gj,run_findKey pQ hf,run_setObj_map _ hb,Result.andThen]
     obtain⟨jl,hX⟩:=hM.LA (zo:= .mo esz es (some (st,clock))) df b9 (m9 (.map bt clock)) (λg=>by
      refine⟨bt,clock,⟨(heap_set hb).1,qq⟩,⟨eH.1,λi e hi=>?_⟩,λst ip e=>by cases e;exact⟨rfl,lZ⟩⟩
      obtain⟨e',q1,q2,q3,q4⟩:=eH.2 i e hi;exact⟨e',q1,q2,q3,q4.cn g (λa b c e=>by cases e;exact aD)⟩) (by
      rintro i' j' rP e ⟨b2,fK,ib⟩;rw[jC]at fK;exact⟨b2,fK,ib⟩)
     rw[jC]at jl hX;exact⟨_,.tuple #[],_,_,_,ρ,by rw[Sem.run_bind,cP];rfl,.inl rfl,h,jl,⟨[],rfl,rfl,aC⟩,hX⟩
    |some r=>
     obtain⟨j,mv⟩:=r;obtain⟨i,e',hj,hi,mT,hf⟩:=hf;have hj:j=i:=om;subst hj;have vI:=(Ki.1 hi).1;have aaC:j<bt.size:=by rw[eH.1];exact vI
     rw[aa6]at hf;have cP:(Builtin.delete_ ats t2 #[.map (some (ρ.aI (.aj id)).b),kv]).run P w= .ok (.tuple #[]) {w with heap:=w.heap.setIfInBounds (ρ.aI (.aj id)).b (.map (bt.eraseIdxIfInBounds j) clock)}:=by simp[Builtin.delete_,W7,run_underlying ht,Go.MapKept.run_getObj_map hb,run_checkKey pQ gj,run_findKey pQ hf,run_setObj_map _ hb,Result.andThen]
     have HS:(bt.eraseIdxIfInBounds j).toList=bt.toList.eraseIdx j:=by simp[Array.eraseIdxIfInBounds,aaC]
     have hbo:(bt.eraseIdxIfInBounds j).toList.map (·.born)=(bt.toList.map (·.born)).eraseIdx j:=by rw[HS];exact Go.ChangeMaps.map_eraseIdx _ _ _
     simp only[bb]at h;obtain⟨U',jl,hX⟩:=hM.aaw (SN:=some (st.eraseIdx j,clock)) df vI hb (m9 (.map (bt.eraseIdxIfInBounds j) clock)) (heap_set hb).1
      ⟨λe he=>qq.1 e (by rw[HS]at he;exact List.mem_of_mem_eraseIdx he),by rw[hbo];exact qq.2.eraseIdx j⟩ HS (λst ip e=>by cases e;exact⟨rfl,by rw[hbo,lZ]⟩)
     exact⟨_,.tuple #[],_,_,_,U',by rw[Sem.run_bind,cP];rfl,.inl rfl,h,jl,⟨[],rfl,rfl,aC⟩,hX⟩
   .exact h.elim
  .exact h.elim
 .exact h.elim
theorem Ju(hM:aA ρ m w)(hE:bn ρ w aZ a.tmps){t kt vt:TypeId}{x:Operand}{x':X}(ht:P.underlying t=some (.map kt vt))(hx:bq x=some x')(h:step P (.Wo x') aZ m K):dh P (do pure (Next.value (<-Instr.range t (a.eval x)))) ρ m w K:=by
 have rX:=aT hE hx;simp only[step]at h;generalize a.eval x=xv at rX|-;split at h
 .rename_i id heq;rw[heq]at rX;obtain⟨bk,df,h⟩:=aW.1 h;rw[aV]at df;split at h
  case h_3=>exact h.elim
  case h_2=>
   rename_i esz es;obtain⟨aD,rfl⟩:=rX;exact Ud hM ht df h
  rename_i es;obtain⟨l,hl,h⟩:=aW.1 h;rw[gP,cg,bb]at h;obtain⟨aD,rfl⟩:=rX;obtain⟨bt,clock,⟨hb,qq⟩,dq,eH⟩:=hM.bk id _ df;obtain⟨rZ,mG⟩:=hM.still df;have HT:=rY (ρ:=ρ) (w:=w) hl bt.toList (by simpa using dq) (λi e he=>by
   obtain⟨e',h1,h2⟩:=eH i e he;exact⟨e',by simpa using h1,h2⟩)
  let lo:wj:=⟨w.heap.size,0,0,0⟩;have hn:=rZ.n;have hmb:=rZ.S _ (.inr rfl);obtain⟨h1,h2⟩:=rZ.push (bk:= .it [] l) (l:=lo) (eP.alloc w (.mapIter (some (ρ.aI (.aj id)).b) clock #[] clock)) (Yj _) (by simp[lo]) (by
   have bQ:(bJ.push {ρ with S:=λb=>ρ.S b\/b=(ρ.aI (.aj id)).b} lo).aI (.aj (m.set id .aU).length)=lo:=by rw[<-hn];exact bJ.gi _ lo
   refine⟨(ρ.aI (.aj id)).b,#[],clock,bt,?_,?_,.inr rfl,?_,qq,?_,aC,λp hp=>HT.2 p (by simpa using hp)⟩
   .rw[bQ];exact(heap_alloc w _).1
   .rw[bQ]
   .exact((heap_alloc w _).2 _ hmb).trans hb
   .rw[<-HT.1];congr 2;exact Array.filter_eq_self.2 aC) trivial
  refine⟨_,.pointer (some ⟨w.heap.size,0,none⟩),w.alloc (.mapIter (some (ρ.aI (.aj id)).b) clock #[] clock),_,_,_,?_,.inl rfl,h,h1,?_,mG.trans h2⟩
  .rw[Sem.run_bind,run_range_map w t kt vt (ρ.aI (.aj id)).b bt clock ht hb];rfl
  .have bQ:(bJ.push {ρ with S:=λb=>ρ.S b\/b=(ρ.aI (.aj id)).b} lo).aI (.aj m.length)=lo:=by
    have:=bJ.gi {ρ with S:=λb=>ρ.S b\/b=(ρ.aI (.aj id)).b} lo
    rw[<-hM.n];exact this
   refine⟨by show m.length<ρ.n+1;rw[hM.n];omega,?_⟩
   rw[bQ]
 .exact h.elim
theorem wV:∀{L:List MapEntry}{i:Nat}{e:MapEntry},L[i]? =some e->(L.map (·.born)).Nodup->L.filter (λx=>!(x.born==e.born))=L.eraseIdx i
 | [],i,e,h,_=>by simp at h
 |x::r,0,e,h,hn=>by
  simp only[acK,aaA]at h;subst h;rw[aaR,abH]at hn;rw[ab2,if_neg aC,List.eraseIdx_zero,List.tail_cons];refine adf.2 λy hy=>?_
  have:y.born≠x.born:=λhe=>hn.1 (he▸aaz.2 ⟨y,hy,rfl⟩)
  simpa using this
 |x::r,i+1,e,h,hn=>by
  simp only[abv]at h;rw[aaR,abH]at hn;have:x.born≠e.born:=λhe=>hn.1 (he▸aaz.2 ⟨e,Tu h,rfl⟩)
  rw[ab2,if_pos (by simpa using this),List.eraseIdx_cons_succ,wV h hn.2]
theorem Jv{bt:Array MapEntry}{clock:Nat}(hb:ic bt clock){seen:Array Nat}{i:Nat}{e:MapEntry}(h:(bt.filter λe=>!seen.contains e.born).toList[i]? =some e):
  (bt.filter λx=>!(seen.push e.born).contains x.born).toList=(bt.filter λe=>!seen.contains e.born).toList.eraseIdx i:=by
 have e0:(bt.filter λe=>!seen.contains e.born).toList=bt.toList.filter λe=>!seen.contains e.born:=aC
 have e1:(bt.filter λx=>!(seen.push e.born).contains x.born).toList=bt.toList.filter λx=>!(seen.push e.born).contains x.born:=aC
 rw[e0]at h|-;rw[e1,<-wV h ((List.filter_sublist.map _).nodup hb.2),List.filter_filter];congr 1;funext x;by_cases h1:x.born=e.born<;>simp[h1,Array.contains_push,Bool.and_comm]
theorem Jy(hM:aA ρ m w)(hE:bn ρ w aZ a.tmps){ty:TypeId}{x:Operand}{x':X}(hx:bq x=some x')(h:step P (.tu x') aZ m K):dh P (do pure (Next.value (<-Instr.next (a.eval x) false ty))) ρ m w K:=by
 have rX:=aT hE hx;simp only[step]at h;generalize a.eval x=xv at rX|-;split at h
 .rename_i id heq;rw[heq]at rX;obtain⟨bk,df,h⟩:=aW.1 h;rw[aV]at df;split at h
  case h_3=>exact h.elim
  case h_2=>
   rename_i mid ip seen;obtain⟨b2,fK,h⟩:=aW.1 h;rw[aV]at fK;split at h
   .obtain⟨hc,ho,hs⟩:=h;obtain⟨aD,rfl⟩:=rX;have h2:=(hM.bk id _ df).2.1;have hp:(Value.pointer (some ⟨(ρ.aI (.aj id)).b,(ρ.aI (.aj id)).ar+0,none⟩))= .pointer (some ⟨(ρ.aI (.aj id)).b,0,none⟩):=by rw[h2]
    rw[hp];exact Ue hM df fK hc ho hs
   .exact h.elim
  rename_i cur left;obtain⟨MF,oq⟩:=h;obtain⟨aD,rfl⟩:=rX;obtain⟨mb,seen,clock,bt,h1,h2,h3,h4,h5,h6,h7,h8⟩:=hM.bk id _ df;have b9:Live ρ m (.aj id):=⟨_,df,aC,by rintro⟨_,_,e⟩;cases e⟩
  have hp:(Value.pointer (some ⟨(ρ.aI (.aj id)).b,(ρ.aI (.aj id)).ar+0,none⟩))= .pointer (some ⟨(ρ.aI (.aj id)).b,0,none⟩):=by rw[h2]
  rw[hp];rcases run_next_at (P:=P) w ty (ρ.aI (.aj id)).b mb clock clock seen bt clock h1 h4 h5.1 (Yj _)with⟨h0,cP⟩|⟨e,he,w1,Uh,cP⟩
  .refine dh.pure hM (v:= .tuple #[.bool false]) (by rw[Sem.run_bind,cP];rfl) (MF ?_) ⟨[.bool false],rfl,rfl,λi r hi=>?_⟩
   .rw[<-h6];have:(bt.filter λe=>!seen.contains e.born).toList=[]:=adz.1 (by simpa[leftOf]using h0)
    rw[this];rfl
   .match i,hi with
    |0,hi=>cases hi;exact⟨_,rfl,.val _ rfl⟩
  .obtain⟨i,hi⟩:=aab he;have hi:(bt.filter λe=>!seen.contains e.born).toList[i]? =some e:=hi
   have hli:left[i]? =some (e.key,e.val):=by rw[<-h6,Tr,hi];rfl
   have jY:=h8 _ (.inl (Tu hli));have hK:=oq i e.key e.val _ hli rfl;rw[bb]at hK;have hbe:(ρ.aI (.aj id)).b≠mb:=λhh=>(hM.aO _ b9).2 (hh▸h3)
   have hh:w1.heap=w.heap/\w1.os=w.os/\w1.tape=w.tape/\w1.output=w.output:=by rcases Uh with rfl|rfl<;>exact⟨rfl,rfl,rfl,rfl⟩
   have QE:(ρ.aI (.aj id)).b<w.heap.size:=(hM.aO _ b9).1;have m9:eV w (Go.ChangeMaps.setBlock w1 (ρ.aI (.aj id)).b (.mapIter (some mb) clock (seen.push e.born) clock)) (ρ.aI (.aj id)).b:=
    ⟨λb dy=>by show(w1.heap.setIfInBounds _ _)[b]? =_;rw[hh.1,acM (Ne.symm dy)],by show(w1.heap.setIfInBounds _ _).size=_;rw[Array.size_setIfInBounds,hh.1],hh.2.1,hh.2.2.1,hh.2.2.2⟩
   obtain⟨jl,hX⟩:=hM.LA (zo:= .it [(e.key,e.val)] (left.eraseIdx i)) df b9 m9 (λg=>⟨mb,seen.push e.born,clock,bt,by
     show(w1.heap.setIfInBounds _ _)[_]? =_;rw[hh.1,ab3 QE],h2,h3,(m9.heap mb (Ne.symm hbe)).trans h4,h5,by
     rw[Jv h5 hi,<-h6];exact Go.ChangeMaps.map_eraseIdx _ _ _,λp hp=>⟨e,seen,by
      have:e∈(bt.filter λe=>!seen.contains e.born).toList:=Tu hi
      simp at this|-;exact this.1,rfl,(ab5.1 hp).symm⟩,λp hp=>by
     rcases hp with hp|hp
     .exact h8 p (.inl (List.mem_of_mem_eraseIdx hp))
     .simp at hp;subst hp;exact jY⟩) (by
     rintro i' j' esz e ⟨b2,fK,ib⟩;rw[TK (by rw[<-hM.n];exact aD)]at fK
     cases fK;cases ib)
   refine⟨_,.tuple #[.bool true,e.key,e.val],_,_,_,ρ,by rw[Sem.run_bind,cP];rfl,.inl rfl,hK,jl,⟨[.bool true,e.key,e.val],rfl,rfl,λi r hi=>?_⟩,hX⟩
   match i,hi with
   |0,hi=>cases hi;exact⟨_,rfl,.val _ rfl⟩
   |1,hi=>cases hi;exact⟨_,rfl,.val _ jY.1⟩
   |2,hi=>cases hi;exact⟨_,rfl,.val _ jY.2⟩
 .exact h.elim
theorem Jz(hM:aA ρ m w)(hE:bn ρ w aZ a.tmps){x:Operand}{x':X}(hx:bq x=some x')(h:step P (.Wp x') aZ m K):dh P (do pure (Next.value (<-Instr.entry (a.eval x)))) ρ m w K:=by
 have rX:=aT hE hx;simp only[step]at h;generalize a.eval x=xv at rX|-;split at h
 .rename_i id heq;rw[heq]at rX;obtain⟨bk,df,h⟩:=aW.1 h;rw[aV]at df;split at h
  case h_3=>exact h.elim
  case h_2=>
   rename_i mid ip s seen;obtain⟨b2,fK,h⟩:=aW.1 h;rw[aV]at fK;split at h
   .obtain⟨hc,i,x,hx,hs,hK⟩:=h;obtain⟨aD,rfl⟩:=rX;have h2:=(hM.bk id _ df).2.1;have hp:(Value.pointer (some ⟨(ρ.aI (.aj id)).b,(ρ.aI (.aj id)).ar+0,none⟩))= .pointer (some ⟨(ρ.aI (.aj id)).b,0,none⟩):=by rw[h2]
    rw[hp];exact Ui hM df fK hc hx hs hK
   .exact h.elim
  .rename_i p tl adi;obtain⟨aD,rfl⟩:=rX;obtain⟨mb,seen,clock,bt,h1,h2,h3,h4,h5,h6,h7,h8⟩:=hM.bk id _ df;obtain⟨e,L4,he,rfl,hp⟩:=h7 p aC;have jY:=h8 p (.inr aC);subst hp;have hp:(Value.pointer (some ⟨(ρ.aI (.aj id)).b,(ρ.aI (.aj id)).ar+0,none⟩))= .pointer (some ⟨(ρ.aI (.aj id)).b,0,none⟩):=by rw[h2]
   rw[hp];have cP:=run_entry_at (P:=P) w (ρ.aI (.aj id)).b mb clock L4 bt clock e h1 h4 he h5.2;refine dh.pure hM (v:= .tuple #[e.key,e.val]) (by rw[Sem.run_bind,cP];rfl) h ⟨[e.key,e.val],rfl,rfl,λi r hi=>?_⟩
   match i,hi with
   |0,hi=>cases hi;exact⟨_,rfl,.val _ jY.1⟩
   |1,hi=>cases hi;exact⟨_,rfl,.val _ jY.2⟩
 .exact h.elim
end
end Go.AM
namespace Go.AM
section
variable {P:Program} {ρ:bJ} {m:Mem} {w:World} {aZ:List CV} {a:Act} {K:CV->Mem->Prop}
theorem wW{α:Type}{l:List α}{h:Nat}{E:List α}(hle:h+E.length<=l.length):(cV l h E).length=l.length:=by simp[cV];omega
theorem qY{α:Type}{l:List α}{h:Nat}{E:List α}(hle:h+E.length<=l.length)(i:Nat):(cV l h E)[i]? =if h<=i/\i<h+E.length then E[i-h]? else l[i]? :=by
 have hl:(l.take h).length=h:=by simp;omega
 simp only[cV];rcases aag i h with h1|h1
 .rw[aad om,if_neg om,aaS,if_pos h1]
 .rw[Y5 om,hl];rcases aag (i-h) E.length with h2|h2
  .rw[aad h2,if_pos om]
  .rw[Y5 h2,if_neg om,abi];congr 1;omega
theorem bm.MI{c:CC}{v:Value}{pos:Option (Nat×Nat×Nat)}(hc:c.jq=true)(h:bm ρ w pos c v):bm ρ w .none c v:=by
 cases c<;>first|exact h|simp[CC.jq]at hc
theorem tO(hM:aA ρ m w){id esz h:Nat}{rows E:List (List CC)}{vs:List Value}(hb:m[id]? =some (.row esz rows))(hle:h+E.length<=rows.length)(cJ:0<rows.length)(hE:∀cs,cs∈E->cs.length=esz)(yW:vs.length=E.length*esz)(MH:∀u,u∈vs->u.oneCell'=true)(cr:∀(i:Nat)cs(j:Nat)c,E[i]? =some cs->cs[j]? =some c->∃u,vs[i*esz+j]? =some u/\bm ρ w .none c u):
  ∃w',(storeCells ⟨(ρ.aI (.aj id)).b,(ρ.aI (.aj id)).ar+h*esz,none⟩ vs).run P w= .ok () w'/\aA ρ (m.set id (.row esz (cV rows h E))) w'/\Ext ρ m w ρ (m.set id (.row esz (cV rows h E))) w':=by
 have hid:id<m.length:=(Ki.1 hb).1;obtain⟨h2,h3,h4,h5,Cp⟩:=hM.bk id _ hb;have bg:0<(ρ.aI (.aj id)).cap:=om;obtain⟨cur,b8,h1,hd⟩:=Cp bg;have hmul:(h+E.length)*esz<=(ρ.aI (.aj id)).cap*esz:=aa8 _ om;rw[abk]at hmul;obtain⟨w',gZ,hr,rS,ht,dq,hk⟩:=nM (P:=P) (ρ.aI (.aj id)).b ((ρ.aI (.aj id)).ar+h*esz) vs 0 cur w b8 (by rw[yW];omega) MH
 obtain⟨jl,hX⟩:=hM.LA (zo:= .row esz (cV rows h E)) hb ⟨_,hb,aC,λ_=>bg⟩ ht (λg=>⟨by rw[wW hle];exact h2,h3,h4,λcs eL=>by
   obtain⟨i,hi⟩:=aab eL;rw[qY hle]at hi;split at hi
   .exact hE cs (Tu hi)
   .exact h5 cs (Tu hi),λ_=>⟨gZ,rS,by rw[dq];exact h1,λi cs j c hi hj=>by
  rw[hk];rw[qY hle]at hi;have kM:j<esz:=by
   have iB:cs.length=esz:=by
    split at hi
    .exact hE cs (Tu hi)
    .exact h5 cs (Tu hi)
   rw[<-iB];exact(Ki.1 hj).1
  split at hi
  .rename_i iU;obtain⟨u,hu,cz⟩:=cr _ cs j c hi hj;have e1:i*esz=h*esz+(i-h)*esz:=by rw[<-abk];congr 1;omega
   have aD:=(Ki.1 hu).1;rw[if_pos om];refine⟨u,?_,(cz.cn g aC).wF _⟩;rw[<-hu];congr 1;omega
  .rename_i iU;obtain⟨u,hu,cz⟩:=hd i cs j c hi hj;have dy:¬((ρ.aI (.aj id)).ar+h*esz+0<=(ρ.aI (.aj id)).ar+i*esz+j/\(ρ.aI (.aj id)).ar+i*esz+j<(ρ.aI (.aj id)).ar+h*esz+0+vs.length):=by
    rw[yW];rcases aag i h with q|q
    .have:(i+1)*esz<=h*esz:=aa8 _ q;rw[abk,ab4]at this;omega
    .have:(h+E.length)*esz<=i*esz:=aa8 _ om;rw[abk]at this;omega
   rw[if_neg dy];exact⟨u,hu,cz.cn g (by rintro _ _ _ e;cases e;rw[hM.n];exact hid)⟩⟩⟩) (by
  rintro i' j' rP e ⟨b2,fK,ib⟩;rw[TK hid]at fK;cases fK;obtain⟨Zt,eW,l4⟩:=ib.yL;rw[qY hle]at eW;split at eW
  .obtain⟨u,hu,cz⟩:=cr _ _ _ _ eW l4;exact absurd rfl (cz.AG _ _)
  .exact⟨_,hb,.row eW l4⟩)
 exact⟨w',hr,jl,hX⟩
theorem wX:∀{cs:List CC},qN cs=true->∀c,c∈cs->c.jq=true
 | [],_,c,h=>by simp at h
 |x::r,h,c,hc=>by
  simp only[qN,aae]at h;rcases aaL.1 hc with rfl|hc
  .exact h.1
  .exact wX h.2 c hc
theorem qt:∀{E:List (List CC)},fJ E=true->∀cs,cs∈E->qN cs=true
 | [],_,c,h=>by simp at h
 |x::r,h,c,hc=>by
  simp only[fJ,aae]at h;rcases aaL.1 hc with rfl|hc
  .exact h.1
  .exact qt h.2 c hc
theorem qv{E:List (List CC)}(h:fJ E=true){i j:Nat}{cs:List CC}{c:CC}(hi:E[i]? =some cs)(hj:cs[j]? =some c):c.jq=true:=
 wX (qt h cs (Tu hi)) c (Tu hj)
theorem CY(hM:aA ρ m w){t t2 ty e e2:TypeId}{i:TypeInfo}{z:List CC}{v v2:Value}{c2:CV}{id h:Nat}{rows E2:List (List CC)}(ht:P.underlying t=some (.slice e))(wK:P.underlying t2=some (.slice e2))(hi:P.info? e=some i)(hz:ek P e=some z)(dq:i.size=z.length)(hb:0<i.bytes)(hd:cf ρ w (.rv (.one (.row id i.size 0 (some h)))) v)(qp:cf ρ w c2 v2)(df:m[id]? =some (.row i.size rows))(EO:fH m i.size c2=some E2)(cJ:0<rows.length)(hle:h+E2.length<=rows.length)(kz:fJ E2=true)(kU:rows.length*i.bytes<=140737488355328)(hK:K (.rv (.one (.row id i.size 0 (some (h+E2.length))))) (m.set id (.row i.size (cV rows h E2)))):
  dh P (do pure (Next.value (<-Builtin.append_ #[t,t2] ty #[v,v2]))) ρ m w K:=by
 have hid:id<m.length:=(Ki.1 df).1;have AN:fH m i.size (.rv (.one (.row id i.size 0 (some h))))=some (b7 rows 0 (some h)):=by simp[fH,aV,df]
 obtain⟨Qq,kV,VR,Fq,WM,Qr,F1⟩:=nO hM AN hd;obtain⟨ad2,Mq,Mr,vJ,WN,WO,F2⟩:=nO hM EO qp;have EL:=hz;simp only[ek,U8,Pu]at EL;obtain⟨i',eQ,zv,Qs,Qo⟩:=EL;rw[hi]at eQ;cases eQ;have W8:(b7 rows 0 (some h)).length=h:=by rw[jS];simp;omega
 rw[W8]at Fq WM;have W9:(h+E2.length)*i.bytes<=140737488355328:=abF (aa8 _ hle) kU;have cP:=oY (P:=P) (w:=w) (ty:=ty) ht wK hi Qs (a0:=Qq) (n1:=h) (c1:=kV) (n2:=E2.length) (src:=v2) (olds:=VR) (news:=Mr)
  (by rw[vJ];rfl) (λk=>by rw[vJ];exact F2.firstCells Mq k) (λk=>by have:=F1.firstCells (P:=P) kV k;rwa [W8]at this) hb W9
 obtain⟨r2,r3,r4,r5,Jl⟩:=hM.bk id _ df;obtain⟨aD,d1,d2,d3,d4,ad,Qv,vE⟩:=hd;rw[Qv]at Fq;injection Fq with q1 q2 q3
 simp only[acW]at q3;have Cq:h+E2.length<=kV:=by rw[<-q3];clear Jl;omega
 have tM:=vE (by clear Jl;omega)
 rw[if_pos Cq]at cP;obtain⟨w',lZ,jl,hX⟩:=tO (P:=P) hM (h:=h) (E:=E2) (vs:=Mr) df hle cJ F2.l7 F2.len F2.one (λk cs j c hk hj=>by obtain⟨u,hu,cz⟩:=F2.jR k cs j c hk hj;exact⟨u,hu,cz.MI (qv kz hk hj)⟩)
 refine⟨.value (.slice Qq (h+E2.length) kV),_,w',.rv (.one (.row id i.size 0 (some (h+E2.length)))),_,ρ,?_,.inl rfl,hK,jl,?_,hX⟩
 .rw[Qv,q1,q2,show(ρ.aI (.aj id)).cap-0=kV by simpa using q3,Sem.run_bind,cP]
  rw[<-q1,tM];simp only[zw,mF,adI,ac8];rw[lZ];rfl
 .refine⟨aD,aav _,?_,d3,d4,Qq,?_,λh0=>by rw[<-q1];exact vE h0⟩
  .show h+E2.length<=_;clear Jl;omega
  .simp only[abA,acW];rw[q3]
theorem CZ(hM:aA ρ m w){t ty e:TypeId}{i:TypeInfo}{z:List CC}{v:Value}{id lo hi:Nat}{rows:List (List CC)}(ht:P.underlying t=some (.slice e))(eQ:P.info? e=some i)(hz:ek P e=some z)(dq:i.size=z.length)(hd:cf ρ w (.rv (.one (.row id i.size lo (some hi)))) v)(df:m[id]? =some (.row i.size rows))(ir:lo<hi)(hle:hi<=rows.length)(hK:K (.bx []) (m.set id (.row i.size (cV rows lo (gH (hi-lo) z))))):
  dh P (do pure (Next.value (<-Builtin.clear_ #[t] ty #[v]))) ρ m w K:=by
 have hid:id<m.length:=(Ki.1 df).1;have EL:=hz;simp only[ek,U8,Pu]at EL;obtain⟨i',eW,zv,Qs,Qo⟩:=EL;rw[eQ]at eW;cases eW;obtain⟨hzl,Jq⟩:=fu (ρ:=ρ) (w:=w) Qo;have P5:zv.cells.size=z.length:=by simpa using hzl
 obtain⟨r2,r3,r4,r5,Jl⟩:=hM.bk id _ df;obtain⟨aD,d1,d2,d3,d4,ad,Qv,vE⟩:=hd;have tM:=vE (by clear Jl;omega)
 have hrl:(gH (hi-lo) z).length=hi-lo:=by rw[fZ];simp
 obtain⟨w',lZ,jl,hX⟩:=tO (P:=P) hM (h:=lo) (E:=gH (hi-lo) z) (vs:=(Builtin.zeroCells zv.cells (hi-lo)).toList) df (by rw[hrl];omega) om
  (λcs eL=>by rw[fZ]at eL;rw[acQ eL,dq]) (by rw[hrl,abY,size_zeroCells,P5,dq])
  (λu hu=>by
   rw[adJ]at hu;simp only[Builtin.zeroCells,Array.mem_map]at hu;obtain⟨k,hk,rfl⟩:=hu;have hk:k<(hi-lo)*zv.cells.size:=by simpa using hk
   have hzp:0<zv.cells.size:=by
    rcases abp zv.cells.size with h0|h0
    .rw[h0]at hk;simp at hk
    .exact h0
   have hm:k%zv.cells.size<zv.cells.size:=Nat.mod_lt _ hzp;rw[P5]at hm;obtain⟨u,hu,cz⟩:=Jq _ _ (vR hm);have vH:zv.cells[k%zv.cells.size]? =some u:=by rw[P5];simpa using hu
   rw[getElem!_def,vH];exact cz.one)
  (λk cs j c hk hj=>by
   rw[fZ]at hk;have kL:=(Ki.1 hk).1;simp at kL;have eL:cs=z:=acQ (Tu hk);subst eL;have yX:=(Ki.1 hj).1;obtain⟨u,hu,cz⟩:=Jq j c hj;refine⟨u,?_,cz⟩;have aD:k*i.size+j<(hi-lo)*zv.cells.size:=by have:(k+1)*i.size<=(hi-lo)*i.size:=aa8 _ kL;rw[abk,ab4]at this;rw[P5,<-dq];omega
   simp only[Builtin.zeroCells,abz,adS,Array.getElem?_range];rw[if_pos aD];simp only[aaG,aaA];have hm:(k*i.size+j)%zv.cells.size=j:=by rw[P5,dq,adw,aeb,ad4 yX]
   rw[hm];have vH:zv.cells[j]? =some u:=by simpa using hu
   rw[getElem!_def,vH])
 refine⟨.value (.tuple #[]),_,w',.bx [],_,ρ,?_,.inl rfl,hK,jl,⟨[],rfl,rfl,λi r h=>by simp at h⟩,hX⟩
 have hn:hi-lo≠0:=om;simp only[abA]at Qv;rw[Qv,tM];obtain⟨n,P2⟩:∃n,hi-lo=n+1:=⟨hi-lo-1,om⟩;rw[P2]at lZ|-;simp[Builtin.clear_,run_underlying ht,zeroValue,typeInfo,eQ,Qs,lZ]
theorem JA(hM:aA ρ m w)(hE:bn ρ w aZ a.tmps){t t2 ty e e2:TypeId}{i:TypeInfo}{z:List CC}{x y:Operand}{x' y':X}(ht:P.underlying t=some (.slice e))(wK:P.underlying t2=some (.slice e2))(hi:P.info? e=some i)(hz:ek P e=some z)(dq:i.size=z.length)(cJ:0<z.length)(hb:0<i.bytes)(hx:bq x=some x')(hy:bq y=some y')(h:step P (.oL i.size i.bytes x' y') aZ m K):
  dh P (do pure (Next.value (<-Builtin.append_ #[t,t2] ty #[a.eval x,a.eval y]))) ρ m w K:=by
 simp only[step]at h;rcases cq.1 h with⟨zB,g1⟩|⟨_,g1⟩
 .exact Fp hM hE ht wK hi hz dq cJ hb hx hy zB g1
 .have hd:=aT hE hx;have qp:=aT hE hy;split at g1
  .rename_i id e1 lo hh SG;rw[SG]at hd;obtain⟨bk,df,g2⟩:=aW.1 g1;rw[aV]at df;split at g2
   .rename_i e2' rows;obtain⟨E2,EO,g3⟩:=aW.1 g2;rcases cq.1 g3 with⟨hc,kU,hK⟩|⟨_,g4⟩
    case inr=>exact g4.elim
    simp only[aae,abe]at hc;obtain⟨q1,q2,q3,c1,c2,c3⟩:=hc;have q1:=aau q1;have q2:=aau q2;have q3:=aau q3;subst q1 q2 q3;rw[bb]at hK;exact CY hM ht wK hi hz dq hb hd qp df EO c1 c2 c3 kU hK
   .exact g2.elim
  .exact g1.elim
theorem JB(hM:aA ρ m w)(hE:bn ρ w aZ a.tmps){t ty e:TypeId}{i:TypeInfo}{z:List CC}{x:Operand}{x':X}(ht:P.underlying t=some (.slice e))(hi:P.info? e=some i)(hz:ek P e=some z)(dq:i.size=z.length)(hx:bq x=some x')(h:step P (.VP i.size z x') aZ m K):
  dh P (do pure (Next.value (<-Builtin.clear_ #[t] ty #[a.eval x]))) ρ m w K:=by
 have hd:=aT hE hx;simp only[step]at h;generalize a.eval x=v at hd|-;generalize x'.ev aZ=c at hd h;have nothing:∀ad cap,v= .slice ad 0 cap->K (.bx []) m->dh P (do pure (Next.value (<-Builtin.clear_ #[t] ty #[v]))) ρ m w K:=by
  intro ad cap hv hK;refine⟨.value (.tuple #[]),_,w,.bx [],m,ρ,?_,.inl rfl,hK,hM,⟨[],rfl,rfl,λi r h=>by simp at h⟩,Ext.refl _ _ _⟩
  subst hv;cases ad<;>simp[Builtin.clear_,run_underlying ht]
 split at h
 .rename_i id e1 lo eQ;obtain⟨bk,df,h⟩:=aW.1 h;rw[aV]at df;split at h
  .rename_i e2 rows;rcases cq.1 h with⟨hc,iU⟩|⟨_,iU⟩
   case inr=>exact iU.elim
   clear h;simp only[aae,abe]at hc;obtain⟨q1,q2,hle⟩:=hc;have q1:=aau q1;have q2:=aau q2;subst q1 q2;obtain⟨r2,_⟩:=hM.bk id _ df;have yF:cf ρ w (.rv (.one (.row id i.size lo (some (qQ eQ rows.length))))) v:=by
    obtain⟨d0,d1,d2,d3,d4,ad,hv,vE⟩:=hd;cases eQ with
    |none=>
     simp only[adm]at d1 d2 hv;refine⟨d0,?_,?_,d3,d4,ad,?_,vE⟩<;>simp only[qQ,abA,r2]
     .exact d1
     .exact Yj _
     .exact hv
    |some hh=>exact⟨d0,d1,d2,d3,d4,ad,hv,vE⟩
   rcases cq.1 iU with⟨aD,hK⟩|⟨eG,hK⟩
   .rw[bb]at hK;exact CZ hM ht hi hz dq yF df (by simpa[abK]using aD) hle hK
   .have eG:¬lo<qQ eQ rows.length:=λhh=>by rw[<-abK,eG]at hh;cases hh
    obtain⟨d0,d1,d2,d3,d4,ad,hv,vE⟩:=yF;simp only[abA]at hv;rw[show qQ eQ rows.length-lo=0 by omega]at hv
    exact nothing _ _ hv hK
  .exact h.elim
 .obtain⟨ad,hv⟩:=hd;exact nothing _ _ hv h
 .exact h.elim
theorem MJ{c:CV}{v:Value}(hc:L9 c=true)(hd:cf ρ w c v):∃ad n cap,v= .slice ad n cap:=by
 unfold L9 at hc;split at hc;all_goals first
  |(cases hc;done)
  |(have hd:dj _ _ _ _:=hd;cases hd<;>exact⟨_,_,_,rfl⟩)
  |(obtain⟨a,hv⟩:=hd;exact⟨_,_,_,hv⟩)
  |(obtain⟨_,_,_,_,_,a,hv,_⟩:=hd;exact⟨_,_,_,hv⟩)
theorem Fz(hM:aA ρ m w)(hE:bn ρ w aZ a.tmps){t t2 ty e:TypeId}{i:TypeInfo}{z:List CC}{x y:Operand}{x' y':X}(ht:P.underlying t=some (.slice e))(hi:P.info? e=some i)(hz:ek P e=some z)(dq:i.size=z.length)(hx:bq x=some x')(hy:bq y=some y')(h:step P (.copy i.size x' y') aZ m K):
  dh P (do pure (Next.value (<-Builtin.copy_ #[t,t2] ty #[a.eval x,a.eval y]))) ρ m w K:=by
 have hd:=aT hE hx;have qp:=aT hE hy;simp only[step]at h;generalize a.eval x=v at hd|-;generalize a.eval y=v2 at qp|-;generalize x'.ev aZ=c at hd h;generalize y'.ev aZ=c2 at qp h;obtain⟨E,EO,h⟩:=aW.1 h;obtain⟨ad2,Mq,Mr,vJ,WN,WO,F2⟩:=nO hM EO qp;have hn:=F2.firstCells (P:=P) Mq 0;rw[show w.drewN 0=w from rfl]at hn;have h':=h;clear h;rcases cq.1 h' with⟨h0,g⟩|⟨h0,g⟩
 .have h0:E.length=0:=aau h0;rcases cq.1 g with⟨hs,hK⟩|⟨_,g⟩
  case inr=>exact g.elim
  obtain⟨ad,n,cap,hv⟩:=MJ hs hd;have yW:Mr=[]:=aaq (by rw[F2.len,h0,adI])
  rw[h0]at hn vJ;rw[yW]at hn;refine⟨.value (goInt 0),_,w,an .i64 0,m,ρ,?_,.inl rfl,hK,hM,dj.val (.int .i64 0) rfl,Ext.refl _ _ _⟩;subst hv vJ;cases ad<;>simp[Builtin.copy_,run_underlying ht,Builtin.lenOf,sizeOf,typeInfo,hi,hn,storeCells]
 .split at g
  .clear h';rename_i rid e1 lo eQ;obtain⟨bk,df,g⟩:=aW.1 g;rw[aV]at df;split at g
   .rename_i e2 rows;rcases cq.1 g with⟨hc,hK⟩|⟨_,g⟩
    case inr=>exact g.elim
    clear g;simp only[aae,abe]at hc;obtain⟨q1,q2,hle,kU,kz⟩:=hc;have q1:=aau q1;have q2:=aau q2;subst q1 q2;have cJ:0<E.length:=by
     rcases abp E.length with e0|e0
     .rw[e0]at h0;cases h0
     .exact e0
    obtain⟨r2,r3,_⟩:=hM.bk rid _ df;have yF:cf ρ w (.rv (.one (.row rid i.size lo (some (qQ eQ rows.length))))) v:=by
     obtain⟨d0,d1,d2,d3,d4,ad,hv,vE⟩:=hd;cases eQ with
     |none=>
      simp only[adm]at d1 d2 hv;refine⟨d0,?_,?_,d3,d4,ad,?_,vE⟩<;>simp only[qQ,abA,r2]
      .exact d1
      .exact Yj _
      .exact hv
     |some hh=>exact⟨d0,d1,d2,d3,d4,ad,hv,vE⟩
    obtain⟨w',lZ,jl,hX⟩:=tO (P:=P) hM (h:=lo) (E:=E) (vs:=Mr) df om om F2.l7 F2.len F2.one (λk cs j c hk hj=>by obtain⟨u,hu,cz⟩:=F2.jR k cs j c hk hj;exact⟨u,hu,cz.MI (qv kz hk hj)⟩)
    rw[bb]at hK;obtain⟨d0,d1,d2,d3,d4,ad,hv,vE⟩:=yF;simp only[abA]at hv d2;have tM:=vE om;have aaD:Nat.min E.length (qQ eQ rows.length-lo)=E.length:=ads om;refine⟨.value (goInt E.length),_,w',an .i64 (E.length:Int),_,ρ,?_,.inl rfl,hK,jl,dj.val (.int .i64 (E.length:Int)) rfl,hX⟩;subst hv vJ tM;simp[Builtin.copy_,run_underlying ht,Builtin.lenOf,sizeOf,typeInfo,hi,hn,aaD,lZ]
   .exact g.elim
  .exact g.elim
theorem FA(hM:aA ρ m w)(hE:bn ρ w aZ a.tmps){t e:TypeId}{n sz:Nat}{agg:Bool}{x k:Operand}{x' k':X}(hu:P.underlying t=some (.array n e))(ha:ec P e=some agg)(hs:eN P e=some sz)(hx:bq x=some x')(hk:bq k=some k')(h:step P (.L6 agg n sz x' k') aZ m K):dh P (do pure (Next.value (<-Instr.index t (a.eval x) (a.eval k)))) ρ m w K:=by
 have hd:=aT hE hx;have yY:=aT hE hk;simp only[step]at h;generalize a.eval x=v at hd|-;generalize a.eval k=vk at yY|-;generalize x'.ev aZ=c at hd h;generalize k'.ev aZ=ck at yY h;split at h
 .rename_i kd j;obtain⟨rfl,_⟩:=bH yY;split at h
  .rename_i cs;obtain⟨vs,rfl,hl,hc⟩:=hd;obtain⟨kk,Cr,g1⟩:=aW.1 h;obtain⟨hj,aD⟩:=mZ Cr;obtain⟨l,hr,g2⟩:=aW.1 g1;obtain⟨cv,hm,hK⟩:=aW.1 g2;clear h g1 g2;subst hj;obtain⟨u,cP,cz⟩:=CN (w:=w) ha hs (cells:=vs.toArray) ⟨by simpa using hl,λi c hi=>by simpa using hc i c hi⟩ hr hm
   refine dh.pure hM (v:=u) ?_ hK cz;have h1:(0:Int)<=(kk:Int)/\(kk:Int)<(n:Int):=om;simp[Instr.index,asIntOf,run_underlying hu,h1,ft hs,aD,cP]
  .exact h.elim
 .exact h.elim
theorem r8(hM:aA ρ m w)(hE:bn ρ w aZ a.tmps){mx:Bool}{ts:Array TypeId}{ty:TypeId}{x y:Operand}{x' y':X}(hx:bq x=some x')(hy:bq y=some y')(h:step P (.ko mx [x',y']) aZ m K):dh P (do pure (Next.value (<-(if mx then Builtin.max_ ts ty #[a.eval x,a.eval y]else Builtin.min_ ts ty #[a.eval x,a.eval y])))) ρ m w K:=by
 have hd:=aT hE hx;have qp:=aT hE hy;simp only[step]at h;generalize a.eval x=v at hd|-;generalize a.eval y=u at qp|-;generalize x'.ev aZ=c at hd h;generalize y'.ev aZ=d at qp h;split at h
 .rename_i k p;obtain⟨rfl,_⟩:=bH hd;split at h
  .rename_i k2 q;obtain⟨rfl,_⟩:=bH qp;cases mx
   .refine dh.pure hM (v:= .int k (if q<p then q else p)) ?_ h (cA rfl)
    simp[Builtin.min_,Builtin.min2]
   .refine dh.pure hM (v:= .int k (if q>p then q else p)) ?_ h (cA rfl)
    simp[Builtin.max_,Builtin.max2]
  .exact h.elim
 .exact h.elim
theorem JC(hM:aA ρ m w)(hE:bn ρ w aZ a.tmps){s e e2:TypeId}{x:Operand}{x':X}(hs:P.underlying s=some (.slice e))(he:P.underlying e=some (.int .u8))(hx:bq x=some x')(h:step P (.Zn x') aZ m K):dh P (do pure (Next.value (<-convert s s (a.eval x)))) ρ m w K:=by
 have hd:=aT hE hx;simp only[step]at h;generalize a.eval x=v at hd|-;generalize x'.ev aZ=c at hd h;split at h
 .rename_i id e1 lo hi;obtain⟨bk,df,g1⟩:=aW.1 h;rw[aV]at df;split at g1
  .rename_i esz rows;rcases cq.1 g1 with⟨aD,hK⟩|⟨_,g2⟩
   case inr=>exact g2.elim
   rw[aae,abK]at aD;obtain⟨ol,aD⟩:=aD;have ol:=aau ol;have hid:id<m.length:=(Ki.1 df).1;have T2:=hd;obtain⟨d0,d1,d2,d3,d4,ad,hv,vE⟩:=hd;obtain⟨r2,r3,r4,r5,Jl⟩:=hM.bk id _ df;have bg:0<(ρ.aI (.aj id)).cap:=by clear Jl;omega
   obtain⟨cur,b8,h1,cr⟩:=Jl bg;have tM:=vE (by clear Jl;omega)
   obtain⟨ty,fr,eF,u9,kz,_⟩:=b8;have QE:=(aaF.1 eF).1;let Xa:Nat×Nat:=if fr.1==fr.2 then(cur.size,cur.size+1)else(min fr.1 cur.size,max fr.2 (cur.size+1))
   let w':World:=w.freeze ⟨(ρ.aI (.aj id)).b,cur.size,none⟩ 1;have Uj:w'.heap[(ρ.aI (.aj id)).b]? =some (.cells cur ty Xa):=by simp[w',World.freeze,abf,eF,Xa]
   have C0:mE (esz=1) w' (ρ.aI (.aj id)).b cur:=by
    refine⟨ty,Xa,Uj,?_,λi hi=>?_,.inl ol⟩
    .simp only[Xa];split
     .simp
     .simp only;omega
    .simp only[Xa];split
     .simp;omega
     .rename_i dy;have dy:fr.1≠fr.2:=by simpa using dy
      have h0:cur.size<=fr.1:=by
       rcases aag fr.1 cur.size with q|q
       .have:=kz fr.1 q;simp at this;omega
       .exact q
      simp;omega
   have ht:eV w w' (ρ.aI (.aj id)).b:=⟨λb hb=>by simp[w',World.freeze,abf,Ne.symm hb],by simp[w',World.freeze],by simp[w',World.freeze],by simp[w',World.freeze],by simp[w',World.freeze]⟩
   obtain⟨jl,hX⟩:=hM.LA (zo:= .row esz rows) df ⟨_,df,aC,λ_=>bg⟩ ht (λg=>⟨r2,r3,r4,r5,λ_=>⟨cur,C0,h1,λi cs j c hi hj=>by
    obtain⟨u,hu,cz⟩:=cr i cs j c hi hj;exact⟨u,hu,cz.cn g (by rintro _ _ _ e;cases e;exact d0)⟩⟩⟩) (by
    rintro i' j' rP e ⟨b2,fK,ib⟩;rw[TK hid]at fK;cases fK;exact⟨_,df,ib⟩)
   have jC:m.set id (.row esz rows)=m:=by
    apply abC;intro i;rw[abb];split
    .rename_i hi;subst hi
     first|rw[df]|rw[if_pos hid,df]
    .rfl
   rw[jC]at jl hX;refine⟨.value v,v,w',_,m,ρ,?_,.inl rfl,hK,jl,T2,hX⟩;have hsh:w.shape? (ρ.aI (.aj id)).b=some (ty,cur.size):=by unfold World.shape?;rw[eF]
   rw[hv,tM];simp[convert,run_underlying hs,run_underlying he,markStringish,hsh];rfl
  .exact g1.elim
 .exact h.elim
end
section
variable {P:Program} {ρ:bJ} {m:Mem} {w:World} {aZ:List CV} {a:Act} {K:CV->Mem->Prop}
theorem bn.ext{U':bJ}{m':Mem}{w':World}{tmps:Array Value}(hM:aA ρ m w)(x:Ext ρ m w U' m' w')(hE:bn ρ w aZ tmps):bn U' w' aZ tmps:=
 ⟨hE.size,λi c hi=>let⟨v,hv,hd⟩:=hE.jR i c hi;⟨v,hv,cf.ext hM x hd⟩⟩
theorem bn.set{tmps:Array Value}{d:Nat}{c:CV}{v:Value}(hE:bn ρ w aZ tmps)(hd:cf ρ w c v):bn ρ w (aZ.set d c) (tmps.setIfInBounds d v):=by
 refine⟨by simp[hE.size],λi c' hi=>?_⟩
 by_cases h:d=i
 .subst h;have aD:d<aZ.length:=by
   rcases aag d aZ.length with h|h
   .exact h
   .rw[aaH (by simpa using h)]at hi;cases hi
  rw[TK aD]at hi;cases hi;exact⟨v,by rw[aci];simp[hE.size,aD],hd⟩
 .rw[U9 h]at hi;obtain⟨u,hu,cz⟩:=hE.jR i c' hi;exact⟨u,by rw[aci,if_neg h];exact hu,cz⟩
theorem MK{d:Option Nat}{v:CV}{e:List CV}{K:List CV->Prop}:put d v e K=match d with|none=>K e|some d=>K (e.set d v):=by
 cases d with
 |none=>rfl
 |some d=>simp only[put,Wx,fq,bb]
theorem bn.put{d:Option Nat}{c:CV}{v:Value}(hE:bn ρ w aZ a.tmps)(hd:cf ρ w c v){K:List CV->Prop}(h:put d c aZ K):
  ∃fR,K fR/\bn ρ w fR (a.put d v).tmps/\(a.put d v).defers=a.defers:=by
 rw[MK]at h;cases d with
 |none=>exact⟨aZ,h,hE,rfl⟩
 |some d=>exact⟨_,h,hE.set hd,rfl⟩
theorem FB{o:Oper}{i:I}(hl:wy P o=some i)(va:∀f xs ts,o.op≠.call {callee:= .value f,args:=xs,argTypes:=ts})(hM:aA ρ m w)(hE:bn ρ w aZ a.tmps)(h:step P i aZ m K):dh P (execOp a.eval o) ρ m w K:=by
 unfold wy at hl;cases dS:o.op;all_goals rw[dS]at hl
 all_goals try(simp only at hl;cases hl;done)
 case move x=>
  simp only[U8,Pu]at hl;obtain⟨x',hx,hl⟩:=hl;cases hl;unfold execOp;rw[dS];exact dh.pure hM rfl h (aT hE hx)
 case assign x=>
  simp only[U8,Pu]at hl;obtain⟨x',hx,hl⟩:=hl;cases hl;unfold execOp;rw[dS];exact dh.pure hM rfl h (aT hE hx)
 case pick c x y=>
  simp only[U8,Pu]at hl;obtain⟨c',hc,x',hx,y',hy,hl⟩:=hl;cases hl;unfold execOp;rw[dS];exact Fk hM hE hc hx hy h
 case alloc t=>
  simp only[U8,Pu]at hl;obtain⟨z,hz,hl⟩:=hl;cases hl;unfold execOp;rw[dS];exact CJ hM hz h
 case box t x=>
  simp only[U8,Pu]at hl;obtain⟨x',hx,hl⟩:=hl;cases hl;unfold execOp;rw[dS];exact Jd hM hE hx h
 case build t ps=>
  simp only[U8,Pu]at hl;obtain⟨z,hz,hl⟩:=hl;unfold execOp;rw[dS];split at hl
  .rename_i fs hu;split at hl
   .rename_i f4;simp only[Pu]at hl;obtain⟨oJ,hp,hl⟩:=hl;cases hl;exact uX hM hE hz (.inl ⟨fs,hu,f4,hp⟩) h
   .cases hl
  .rename_i n e hu;simp only[Pu]at hl;obtain⟨sz,hs,oJ,hp,hl⟩:=hl;cases hl;exact uX hM hE hz (.inr ⟨n,e,sz,hu,hs,hp⟩) h
  .cases hl
 case buildSlice t n ps=>
  simp only[U8]at hl;unfold execOp;rw[dS];split at hl
  .rename_i e hu;simp only[Pu]at hl;obtain⟨z,hz,sz,hs,hl⟩:=hl;split at hl
   .rename_i hc;obtain⟨rfl,h2,h3⟩:=hc;simp only[Pu]at hl;obtain⟨oJ,hp,hl⟩:=hl;cases hl;exact Jj hM hE hu hz hs h2 h3 hp h
   .cases hl
  .cases hl
 case load t x=>
  simp only[U8,Pu]at hl;obtain⟨agg,ha,n,hs,x',hx,hl⟩:=hl;cases hl;unfold execOp;rw[dS];exact Fe hM hE ha hs hx h
 case store t p x=>
  simp only[U8,Pu]at hl;obtain⟨n,hs,hl⟩:=hl;split at hl
  .cases hl
  .rename_i hn;simp only[Pu]at hl;obtain⟨p',hp,x',hx,hl⟩:=hl;cases hl;unfold execOp;rw[dS];exact CM hM hE hs hn hp hx h
 case fieldAddr t x k=>
  simp only[U8]at hl;unfold execOp;rw[dS];split at hl
  .rename_i fs hu;simp only[Pu]at hl;obtain⟨f,hf,n,hs,hl⟩:=hl;split at hl
   .cases hl
   .rename_i hn;simp only[Pu]at hl;obtain⟨x',hx,hl⟩:=hl;cases hl;exact Ff hM hE hu hf hs hn hx h
  .cases hl
 case field t x k=>
  simp only[U8]at hl;unfold execOp;rw[dS];split at hl
  .rename_i fs hu;simp only[Pu]at hl;obtain⟨f,hf,agg,ha,n,hs,x',hx,hl⟩:=hl;cases hl;exact Jf hM hE hu hf ha hs hx h
  .cases hl
 case indexAddr t x k=>
  simp only[U8]at hl;unfold execOp;rw[dS];split at hl
  .rename_i e hu;simp only[Pu]at hl;obtain⟨n,hs,x',hx,k',hk,hl⟩:=hl;cases hl;exact Jg hM hE hu hs hx hk h
  .rename_i len e hu;simp only[Pu]at hl;obtain⟨n,hs,x',hx,k',hk,hl⟩:=hl;cases hl;exact Fg hM hE hu hs hx hk h
  .cases hl
 case index t x k=>
  simp only[U8]at hl;unfold execOp;rw[dS];split at hl
  .rename_i hu;simp only[Pu]at hl;obtain⟨x',hx,k',hk,hl⟩:=hl;cases hl;exact Fh hM hE hu hx hk h
  .rename_i n e hu;simp only[Pu]at hl;obtain⟨agg,ha,sz,hs,x',hx,k',hk,hl⟩:=hl;cases hl;exact FA hM hE hu ha hs hx hk h
  .cases hl
 case binOp op t x y yt=>
  simp only[U8]at hl;unfold execOp;rw[dS];split at hl
  .simp only[Pu]at hl;obtain⟨x',hx,y',hy,hl⟩:=hl;cases hl;exact zq hM hE hx hy h
  .simp only[Pu]at hl;obtain⟨x',hx,y',hy,hl⟩:=hl;cases hl;exact zq hM hE hx hy h
  .rename_i e hu;split at hl
   .simp only[Pu]at hl;obtain⟨x',hx,hl⟩:=hl;cases hl;exact wP (neg:=false) hM hE hu hx h
   .simp only[Pu]at hl;obtain⟨x',hx,hl⟩:=hl;cases hl;exact wP (neg:=true) hM hE hu hx h
   .cases hl
  .rename_i hu;split at hl
   .simp only[Pu]at hl;obtain⟨x',hx,y',hy,hl⟩:=hl;cases hl;exact zr (neg:=false) hM hE hu hx hy h
   .simp only[Pu]at hl;obtain⟨x',hx,y',hy,hl⟩:=hl;cases hl;exact zr (neg:=true) hM hE hu hx hy h
   .cases hl
  .rename_i n e hu;split at hl
   .rename_i kk hg hue hs;simp only[Pu]at hl;obtain⟨x',hx,y',hy,hl⟩:=hl;cases hl;exact wH (neg:=false) hM hE hu hg hue hs hx hy h
   .rename_i kk hg hue hs;simp only[Pu]at hl;obtain⟨x',hx,y',hy,hl⟩:=hl;cases hl;exact wH (neg:=true) hM hE hu hg hue hs hx hy h
   .cases hl
  .rename_i fs hu;split at hl
   .rename_i ks hg hk;simp only[Pu]at hl;obtain⟨x',hx,y',hy,hl⟩:=hl;cases hl;exact zt (neg:=false) hM hE hu hg hk hx hy h
   .rename_i ks hg hk;simp only[Pu]at hl;obtain⟨x',hx,y',hy,hl⟩:=hl;cases hl;exact zt (neg:=true) hM hE hu hg hk hx hy h
   .cases hl
  .cases hl
 case unOp op t x=>
  simp only[U8,Pu]at hl;obtain⟨x',hx,hl⟩:=hl;cases hl;unfold execOp;rw[dS];exact Mj hM hE hx h
 case convert s d x=>
  simp only[U8]at hl;unfold execOp;rw[dS];split at hl
  .rename_i hs hd;simp only[Pu]at hl;obtain⟨x',hx,hl⟩:=hl;cases hl;exact Fi hM hE hs hd hx h
  .rename_i hs hd;simp only[Pu]at hl;obtain⟨x',hx,hl⟩:=hl;cases hl;exact Jh hM hE hs hd hx h
  .rename_i e hs hd;split at hl
   .rename_i he;simp only[Pu]at hl;obtain⟨x',hx,hl⟩:=hl;cases hl;exact Jo hM hE hs he hd hx h
   .cases hl
  .rename_i e hs hd;split at hl
   .rename_i he;simp only[Pu]at hl;obtain⟨x',hx,hl⟩:=hl;cases hl;exact Jp hM hE hs hd he hx h
   .cases hl
  .rename_i e0 e hs hd;split at hl
   .rename_i hsd he;simp only[Pu]at hl;obtain⟨x',hx,hl⟩:=hl;cases hl;have hsd:s=d:=by simpa using hsd
    subst hsd;rw[hs]at hd;cases hd;exact JC (e2:=e0) hM hE hs he hx h
   .cases hl
  .cases hl
 case range t x=>
  dsimp only at hl;unfold execOp;rw[dS];split at hl
  .rename_i kt vt hu;simp only[U8,Pu]at hl;obtain⟨x',hx,hl⟩:=hl;cases hl;exact Ju hM hE hu hx h
  .cases hl
 case next it b=>
  cases b with
  |false=>
   simp only[U8,Pu]at hl;unfold execOp;rw[dS];obtain⟨x',hx,hl⟩:=hl;cases hl;exact Jy hM hE hx h
  |true=>cases hl
 case entry it=>
  simp only[U8,Pu]at hl;unfold execOp;rw[dS];obtain⟨x',hx,hl⟩:=hl;cases hl;exact Jz hM hE hx h
 case makeMap t r=>
  dsimp only at hl;unfold execOp;rw[dS];split at hl
  .cases hl;exact u5 hM (.inl rfl) h
  .rename_i k n kt et hu;cases hl;exact u5 hM (.inr ⟨k,n,kt,et,rfl,hu⟩) h
  .cases hl
 case makeSlice t l c=>
  simp only[U8]at hl;unfold execOp;rw[dS];split at hl
  .rename_i e hu;simp only[Pu]at hl;obtain⟨i,hi,z,hz,hl⟩:=hl;split at hl
   .rename_i hc;obtain⟨h1,h2,h3⟩:=hc;simp only[Pu]at hl;obtain⟨l',AP,c',rS,hl⟩:=hl;cases hl;exact yV hM hE hu hi hz h1 h2 h3 AP rS h
   .cases hl
  .cases hl
 case lookup t x k b=>
  simp only[U8]at hl;unfold execOp;rw[dS];split at hl
  .rename_i kt vt hu;simp only[Pu]at hl;obtain⟨z,hz,kk,hk,x',hx,k',MC,hl⟩:=hl;cases hl;exact Fx hM hE hu hz hk hx MC h
  .cases hl
 case mapUpdate t x k v=>
  simp only[U8]at hl;unfold execOp;rw[dS];split at hl
  .rename_i kt vt hu;simp only[Pu]at hl;obtain⟨kk,hk,x',hx,k',MC,v',hv,hl⟩:=hl;cases hl;exact wU hM hE hu hk hx MC hv h
  .cases hl
 case insert t x k v=>
  simp only[U8]at hl;unfold execOp;rw[dS];split at hl
  .rename_i kt vt hu;simp only[Pu]at hl;obtain⟨kk,hk,x',hx,k',MC,v',hv,hl⟩:=hl;cases hl;exact wU hM hE hu hk hx MC hv h
  .cases hl
 case makeFunc fn fst eM=>
  unfold execOp;rw[dS];cases fn<;>simp only at hl<;>try(cases hl;done)
  rename_i f;split at hl
  .rename_i hz;simp only[U8,Pu]at hl;obtain⟨x',hx,hl⟩:=hl;cases hl;have hf:fst= #[]:=Array.eq_empty_of_size_eq_zero hz;subst hf;exact Ml hM hE hx h
  .cases hl
 case extract x k=>
  simp only[U8,Pu]at hl;obtain⟨x',hx,hl⟩:=hl;cases hl;unfold execOp;rw[dS];exact Ji hM hE hx h
 case slice t x lo hi mx=>
  simp only[U8]at hl;unfold execOp;rw[dS];split at hl
  .rename_i e hu;simp only[Pu]at hl;obtain⟨n,hs,x',hx,Ft,ir,eQ,yG,mx',P3,hl⟩:=hl;cases hl;exact Jm hM hE hu hs hx ir yG P3 h
  .rename_i hu;cases mx<;>simp only at hl
   .simp only[Pu]at hl;obtain⟨x',hx,Ft,ir,eQ,yG,hl⟩:=hl;cases hl;exact Fs hM hE hu hx ir yG h
   .cases hl
  .cases hl
 case nilCheck x=>
  simp only[U8,Pu]at hl;obtain⟨x',hx,hl⟩:=hl;cases hl;exact Fj hM hE dS hx h
 case call c=>
  obtain⟨callee,args,argTypes⟩:=c;cases callee with
  |value f=>
   exact absurd dS (va _ _ _)
  |invoke r n=>simp only at hl;cases hl
  |builtin b=>
   cases b<;>simp only at hl<;>try(cases hl;done)
   case len=>
    simp only[U8]at hl;split at hl
    .rename_i x t eY AR;have e1:args= #[x]:=ab1 (by simpa using eY)
     have e2:argTypes= #[t]:=ab1 (by simpa using AR)
     subst e1 e2;unfold execOp;rw[dS];split at hl
     .rename_i hu;simp only[Pu]at hl;obtain⟨x',hx,hl⟩:=hl;cases hl;have:=tI (ty:=o.type) hM hE (.inl ⟨rfl,hu⟩) hx h;unfold dh at this|-;simpa[resolve,invoke,builtin]using this
     .rename_i e hu;simp only[Pu]at hl;obtain⟨x',hx,hl⟩:=hl;cases hl;have:=tI (ty:=o.type) hM hE (.inr (.inl ⟨rfl,e,hu⟩)) hx h;unfold dh at this|-;simpa[resolve,invoke,builtin]using this
     .rename_i kt e hu;simp only[Pu]at hl;obtain⟨x',hx,hl⟩:=hl;cases hl;have:=tI (ty:=o.type) hM hE (.inr (.inr ⟨rfl,kt,e,hu⟩)) hx h;unfold dh at this|-;simpa[resolve,invoke,builtin]using this
     .cases hl
    .cases hl
   case append=>
    simp only[U8]at hl;split at hl
    .rename_i x y t t2 eY AR;have e1:args= #[x,y]:=ab1 (by simpa using eY)
     have e2:argTypes= #[t,t2]:=ab1 (by simpa using AR)
     subst e1 e2;unfold execOp;rw[dS];split at hl
     .rename_i e e2 hu WB;simp only[Pu]at hl;obtain⟨i,hi,z,hz,hl⟩:=hl;split at hl
      .rename_i hc;obtain⟨h1,h2,h3⟩:=hc;simp only[Pu]at hl;obtain⟨x',hx,y',hy,hl⟩:=hl;cases hl;have:=JA (ty:=o.type) hM hE hu WB hi hz h1 h2 h3 hx hy h;unfold dh at this|-;simpa[resolve,invoke,builtin]using this
      .cases hl
     .cases hl
    .cases hl
   case min=>
    simp only[U8]at hl;split at hl
    .rename_i x y eY;have e1:args= #[x,y]:=ab1 (by simpa using eY)
     subst e1;unfold execOp;rw[dS];simp only[Pu]at hl;obtain⟨x',hx,y',hy,hl⟩:=hl;cases hl;have:=r8 (mx:=false) (ts:=argTypes) (ty:=o.type) hM hE hx hy h;unfold dh at this|-;simpa[resolve,invoke,builtin]using this
    .cases hl
   case max=>
    simp only[U8]at hl;split at hl
    .rename_i x y eY;have e1:args= #[x,y]:=ab1 (by simpa using eY)
     subst e1;unfold execOp;rw[dS];simp only[Pu]at hl;obtain⟨x',hx,y',hy,hl⟩:=hl;cases hl;have:=r8 (mx:=true) (ts:=argTypes) (ty:=o.type) hM hE hx hy h;unfold dh at this|-;simpa[resolve,invoke,builtin]using this
    .cases hl
   case copy=>
    simp only[U8]at hl;split at hl
    .rename_i x y t t2 eY AR;have e1:args= #[x,y]:=ab1 (by simpa using eY)
     have e2:argTypes= #[t,t2]:=ab1 (by simpa using AR)
     subst e1 e2;unfold execOp;rw[dS];split at hl
     .rename_i e hu;simp only[Pu]at hl;obtain⟨i,hi,z,hz,hl⟩:=hl;split at hl
      .rename_i hc;simp only[Pu]at hl;obtain⟨x',hx,y',hy,hl⟩:=hl;cases hl;have:=Fz (ty:=o.type) (t2:=t2) hM hE hu hi hz hc hx hy h;unfold dh at this|-;simpa[resolve,invoke,builtin]using this
      .cases hl
     .cases hl
    .cases hl
   case clear=>
    simp only[U8]at hl;split at hl
    .rename_i x t eY AR;have e1:args= #[x]:=ab1 (by simpa using eY)
     have e2:argTypes= #[t]:=ab1 (by simpa using AR)
     subst e1 e2;unfold execOp;rw[dS];split at hl
     .rename_i e hu;simp only[Pu]at hl;obtain⟨i,hi,z,hz,hl⟩:=hl;split at hl
      .rename_i hc;simp only[Pu]at hl;obtain⟨x',hx,hl⟩:=hl;cases hl;have:=JB (ty:=o.type) hM hE hu hi hz hc hx h;unfold dh at this|-;simpa[resolve,invoke,builtin]using this
      .cases hl
     .cases hl
    .cases hl
   case delete=>
    simp only[U8]at hl;split at hl
    .rename_i x y t r eY AR;have e1:args= #[x,y]:=ab1 (by simpa using eY)
     have e2:argTypes[0]? =some t:=by rw[<-abz,AR];rfl
     subst e1;unfold execOp;rw[dS];split at hl
     .rename_i kt et hu;simp only[Pu]at hl;obtain⟨kk,hk,x',hx,y',hy,hl⟩:=hl;cases hl;have:=Fy (t2:=o.type) (ats:=argTypes) hM hE e2 hu hk hx hy h;unfold dh at this|-;simpa[resolve,invoke,builtin]using this
     .cases hl
    .cases hl
end
section
variable {P:Program}
def C1:Exit->Option Ex
 | .normal=>some .normal
 | .exit id=>some (.exit id)
 | .ret=>some .ret
 |_=>none
def FC(N:Nat)(ρ:bJ)(w:World)(ds:List Deferred):Prop:=
 ∃Ds:List Nat,ds=Ds.map (λD=>{target:= .collected D,args:= #[]})/\Ds.Nodup/\∀D,D∈Ds->N<=D/\ρ.S D/\w.heap[D]? =some (.deferred (some []))
theorem FC.nil{N:Nat}{ρ:bJ}{w:World}:FC N ρ w []:=⟨[],rfl,List.nodup_nil,aC⟩
theorem FC.ext{N:Nat}{ρ U':bJ}{m m':Mem}{w w':World}{ds:List Deferred}(hM:aA ρ m w)(x:Ext ρ m w U' m' w')(h:FC N ρ w ds):FC N U' w' ds:=by
 obtain⟨Ds,h1,h2,h3⟩:=h;refine⟨Ds,h1,h2,λD hD=>?_⟩
 obtain⟨g1,g2,g3⟩:=h3 D hD;exact⟨g1,x.S D g2,(x.frame D (hM.S D g2) λk hk e=>(hM.aO k hk).2 (e▸g2)).trans g3⟩
theorem FC.s{N:Nat}{ρ U':bJ}{w:World}{ds:List Deferred}(hS:∀b,ρ.S b->U'.S b)(h:FC N ρ w ds):FC N U' w ds:=by obtain⟨Ds,h1,h2,h3⟩:=h;exact⟨Ds,h1,h2,λD hD=>⟨(h3 D hD).1,hS D (h3 D hD).2.1,(h3 D hD).2.2⟩⟩
structure Inv(N:Nat)(ρ0:bJ)(m0:Mem)(w0:World)(st:St)(ρ:bJ)(a:Act)(w:World):Prop where
 ext:Ext ρ0 m0 w0 ρ st.mem w
 mem:aA ρ st.mem w
 aZ:bn ρ w st.aZ a.tmps
 defers:FC N ρ w a.defers
 hN:N<=w0.heap.size
 n0:m0.length<=st.mem.length
def AS(N:Nat)(ρ0:bJ)(m0:Mem)(w0:World)(K:Ex->St->Prop)(e:Exit)(a:Act)(w:World):Prop:=
 ∃ex st ρ,C1 e=some ex/\K ex st/\Inv N ρ0 m0 w0 st ρ a w
variable {N:Nat} {ρ0:bJ} {m0:Mem} {w0:World}
theorem Inv.step{aZ:List CV}{m m':Mem}{ρ U':bJ}{a:Act}{w w':World}{d:Option Nat}{c:CV}{v:Value}(h:Inv N ρ0 m0 w0 ⟨aZ,m⟩ ρ a w)(hM:aA U' m' w')(hd:cf U' w' c v)(hx:Ext ρ m w U' m' w'){K:List CV->Prop}(hp:put d c aZ K):
  ∃fR,K fR/\Inv N ρ0 m0 w0 ⟨fR,m'⟩ U' (a.put d v) w':=by
 obtain⟨fR,hK,hE,hdf⟩:=(h.aZ.ext h.mem hx:bn U' w' aZ a.tmps).put hd hp;refine⟨fR,hK,h.ext.trans hx,hM,hE,hdf▸h.defers.ext h.mem hx,h.hN,?_⟩;have h1:=h.n0;have h2:=h.mem.n;have h3:=hM.n;have h4:=hx.n;simp only at h1 h2|-;omega
theorem C2{o:Oper}{i:I}{aZ:List CV}{m:Mem}{ρ:bJ}{a:Act}{w:World}{K:List CV->Mem->Prop}{next:Act->World->Prop}{Q:Exit->Act->World->Prop}(hl:tE P o=some i)(h:Inv N ρ0 m0 w0 ⟨aZ,m⟩ ρ a w)(hs:step P i aZ m λv m'=>put o.dst v aZ λe'=>K e' m')(hn:∀fR m' U' a' w',K fR m'->Inv N ρ0 m0 w0 ⟨fR,m'⟩ U' a' w'->next a' w'):o.wp P a w next Q:=by
 rcases E8 hl with hl|rfl
 case inr=>rw[Qk]at hs;exact hs.elim
 by_cases hc:∃f xs ts,o.op= .call {callee:= .value f,args:=xs,argTypes:=ts}
 .obtain⟨f,xs,ts,dS⟩:=hc;have W0:∃f' HL,i= .call f' HL/\bq f=some f'/\uS xs.toList=some HL:=by unfold wy at hl;rw[dS]at hl;simp only[U8,Pu]at hl;obtain⟨f1,hf,xs1,hx,hl⟩:=hl;cases hl;exact⟨f1,xs1,rfl,hf,hx⟩
  obtain⟨f',HL,rfl,hf,hx⟩:=W0;have hd:=aT h.aZ hf;simp only[step]at hs;split at hs
  .rename_i g eM hfe;rw[hfe]at hd;obtain⟨ML,hv⟩:=hd;obtain⟨⟨fn,hfn,SO,HU⟩,va⟩:=hs;obtain⟨e1,e2⟩:=tH h.aZ hx;simp only[cg,wG]at va;have hb:fn.body≠none:=by intro e;rw[e]at SO;cases SO
   have MM:fn.name≠ "runtime.NumGoroutine" :=by intro e;rw[e]at HU;simp at HU
   have cP:(execOp a.eval o).run P w= .ok (.enter g (xs.map a.eval++(eM.map λid=>Value.pointer (some ⟨(ρ.aI (.aj id)).b,(ρ.aI (.aj id)).ar,none⟩)).toArray)) w:=by unfold execOp;rw[dS];simp[resolve,hv,Deferred.ofValue,invoke,callFunc,hfn,MM,hb]
   unfold Oper.wp;rw[cP,Oper.upon_enter];have AT:=va ρ w (xs.toList.map a.eval++eM.map λid=>Value.pointer (some ⟨(ρ.aI (.aj id)).b,(ρ.aI (.aj id)).ar,none⟩)) h.mem (by simp[e1]) (λi c hi=>by
    rcases aag i (Hx aZ HL).length with aD|eG
    .rw[aad aD]at hi;obtain⟨v,vJ,yF⟩:=e2 i c hi;exact⟨v,by rw[aad (by simpa[e1]using aD)];exact vJ,yF⟩
    .rw[Y5 eG]at hi;rw[Y5 (by simpa[e1]using eG)]
     rw[Tr]at hi;cases hk:eM[i-(Hx aZ HL).length]? with
     |none=>rw[hk]at hi;cases hi
     |some id=>
      rw[hk]at hi;simp only[aaG,aaA]at hi;subst hi;refine⟨_,by rw[N7,<-e1,Tr,hk];rfl,ML id (Tu hk),aC⟩)
   have eY:(xs.toList.map a.eval++eM.map λid=>Value.pointer (some ⟨(ρ.aI (.aj id)).b,(ρ.aI (.aj id)).ar,none⟩)).toArray=
     xs.map a.eval++(eM.map λid=>Value.pointer (some ⟨(ρ.aI (.aj id)).b,(ρ.aI (.aj id)).ar,none⟩)).toArray:=by
    apply ab1;simp
   rw[eY]at AT;refine AT.mono λe w' hR=>?_
   obtain⟨v,r,m',U',rfl,hK,jl,yT,tK⟩:=hR;obtain⟨fR,LI,hI⟩:=h.step (d:=o.dst) jl yT tK hK;exact hn fR m' U' _ w' LI hI
  .exact hs.elim
 .obtain⟨nx,v,w',cv,m',U',hr,Xb,hK,jl,yT,tK⟩:=FB hl (λf xs ts e=>hc ⟨f,xs,ts,e⟩) h.mem h.aZ hs
  obtain⟨fR,LI,hI⟩:=h.step (d:=o.dst) jl yT tK hK;unfold Oper.wp;rw[hr];rcases Xb with rfl|⟨rfl,rfl⟩
  .exact hn fR m' U' _ w' LI hI
  .exact hn fR m' U' _ w' LI hI
theorem tP{ops:Array Oper}:∀{l:List Oper}{bZ:List LO},mX P ops l=some bZ->∀(o:Oper)(r:List Oper),l=o::r->∃lo lr,bZ=lo::lr/\wz P ops o=some lo/\mX P ops r=some lr:=by rintro l bZ h o r rfl;simp only[mX,U8,Pu]at h;obtain⟨lo,h1,lr,h2,h3⟩:=h;cases h3;exact⟨lo,lr,rfl,h1,h2⟩
theorem AU{aZ:List CV}{s:Nat}{t:Bool}(h:kP aZ s=aF t):aX aZ s (aF t)=aZ:=by
 rw[bb];rw[mh]at h;cases hg:aZ[s]? with
 |none=>rw[hg]at h;cases h
 |some c=>
  rw[hg]at h;simp only[abA]at h;subst h;exact abC λi=>by
   by_cases hi:s=i
   .subst hi;rw[TK (Ki.1 hg).1,hg]
   .rw[U9 hi]
theorem wY{ops:Array Oper}{Q:Exit->Act->World->Prop}{K:List CV->Mem->Prop}(hQ:∀aZ m ρ a w,K aZ m->Inv N ρ0 m0 w0 ⟨aZ,m⟩ ρ a w->Q .normal a w):
  ∀(l:List Oper)(k:Nat)(bZ:List LO)(aZ:List CV)(m:Mem)(ρ:bJ)(a:Act)(w:World),ops.toList.drop k=l->mX P ops l=some bZ->I9 P bZ K aZ m->Inv N ρ0 m0 w0 ⟨aZ,m⟩ ρ a w->
   wpOps P ops Q (List.range' k l.length) a w
 | [],k,bZ,aZ,m,ρ,a,w,hl,jZ,h,hI=>by simp[mX]at jZ;subst jZ;exact hQ aZ m ρ a w h hI
 |o::r,k,bZ,aZ,m,ρ,a,w,hl,jZ,h,hI=>by
  obtain⟨lo,lr,rfl,h1,h2⟩:=tP jZ o r rfl;have fA:ops[k]? =some o:=by
   have:(ops.toList.drop k)[0]? =some o:=by rw[hl];rfl
   simpa using this
  have hr:ops.toList.drop (k+1)=r:=by rw[<-List.tail_drop,hl];rfl
  have ih:=λaZ m ρ a w=>wY hQ r (k+1) lr aZ m ρ a w hr h2
  simp only[wz,U8,Pu]at h1;obtain⟨i,hi,g,hg,h1⟩:=h1;cases h1;simp only[aar,adD,wpOps,fA];have skip:∀(e:List CV),Inv N ρ0 m0 w0 ⟨e,m⟩ ρ a w->(put o.dst .undef e λe'=>I9 P lr K e' m)->wpOps P ops Q (List.range' (k+1) r.length) (a.put o.dst Go.undef) w:=λe Zu hp=>by obtain⟨fR,LI,p6⟩:=Zu.step (d:=o.dst) (c:= .undef) (v:=Go.undef) Zu.mem rfl (Ext.refl _ _ _) hp;exact ih _ _ _ _ _ LI p6
  have exec:∀(e:List CV),Inv N ρ0 m0 w0 ⟨e,m⟩ ρ a w->(step P i e m λv m'=>put o.dst v e λe'=>I9 P lr K e' m')->o.wp P a w (wpOps P ops Q (List.range' (k+1) r.length)) Q:=λe Zu hp=>
   C2 hi Zu hp λfR m' U' a' w' LI p6=>ih _ _ _ _ _ LI p6
  cases MN:o.guard with
  |none=>
   rw[MN]at hg;simp[Mb]at hg;subst hg;have hw:Region.wanted o (yielded ops a.tmps)=true:=by simp[Region.wanted,MN]
   rw[if_pos hw];simp only[zm,HE,fq]at h;exact .inl (exec aZ hI h)
  |some jb=>
   obtain⟨j,kp⟩:=jb;rw[MN]at hg;simp only[Mb,U8,Pu]at hg;obtain⟨oj,hoj,s,hs,hg⟩:=hg;cases hg;have hy:yielded ops a.tmps j=match a.tmps[s]? with|some (.bool b)=>some b|_=>none:=by simp[yielded,hoj,hs];rfl
   simp only[zm,HE]at h;split at h
   .rename_i eG;have cr:=hI.aZ.get s;rw[eG]at cr;have hu:a.tmps[s]? =some Go.undef\/a.tmps[s]? =none:=by
     simp only[cf,abE]at cr;cases ht:a.tmps[s]? with
     |none=>exact .inr rfl
     |some v=>rw[ht]at cr;simp at cr;exact .inl (by rw[cr])
    have hw:Region.wanted o (yielded ops a.tmps)=false:=by
     simp only[Region.wanted,MN,hy];rcases hu with hu|hu<;>rw[hu]<;>rfl
    rw[if_neg (by simp[hw])]
    exact skip aZ hI h
   .rename_i t eG;have cr:=hI.aZ.get s;rw[eG]at cr;have ht:a.tmps[s]? =some (.bool t):=by
     have:=(bH cr).1;rw[abE]at this;cases ht:a.tmps[s]? with
     |none=>rw[ht]at this;cases this
     |some v=>rw[ht]at this;simp at this;rw[this]
    have hw:Region.wanted o (yielded ops a.tmps)=(t==kp):=by simp[Region.wanted,MN,hy,ht]
    have r9:∀b,t=b->aX aZ s (aF b)=aZ:=λb hb=>by subst hb;exact AU eG
    rcases cq.1 h with⟨rfl,h⟩|⟨rfl,h⟩
    .simp only[fq,r9 true rfl]at h;cases kp with
     |true=>rw[if_pos (by simp[hw])];exact .inl (exec aZ hI h)
     |false=>rw[if_neg (by simp[hw])];exact skip aZ hI h
    .simp only[fq,r9 false rfl]at h;cases kp with
     |false=>rw[if_pos (by simp[hw])];exact .inl (exec aZ hI h)
     |true=>rw[if_neg (by simp[hw])];exact skip aZ hI h
   .exact h.elim
theorem bm.dB{ρ:bJ}{w:World}{pos:Option (Nat×Nat×Nat)}{c:CC}{v:Value}(h:bm ρ w pos c v):c.dB ρ.n:=by
 cases c<;>simp only[bm]at h<;>simp only[CC.dB]
 case ptr=>exact h.1
 case nH=>exact h.1
 case row=>exact h.1
 case map=>exact h.1
 case fn=>exact h.1
theorem dk.dB{ρ:bJ}{w:World}{r:RV}{v:Value}(h:dk ρ w r v):r.dB ρ.n:=by
 cases r with
 |one c=>exact bm.dB h
 |agg cs=>
  obtain⟨vs,_,_,hc⟩:=h;intro c rS;obtain⟨i,hi⟩:=aab rS;obtain⟨u,_,hd⟩:=hc i c hi;exact hd.dB
theorem cf.dB{ρ:bJ}{w:World}{c:CV}{v:Value}(h:cf ρ w c v):c.dB ρ.n:=by
 cases c with
 |aH=>trivial
 |undef=>trivial
 |rv r=>exact dk.dB h
 |bx rs=>
  obtain⟨vs,_,_,hc⟩:=h;intro r hr;obtain⟨i,hi⟩:=aab hr;obtain⟨u,_,hd⟩:=hc i r hi;exact hd.dB
theorem cK.dB{ρ:bJ}{w:World}{id:Nat}{b:Bk}(h:cK ρ w id b):b.dB ρ.n:=by
 cases b with
 |aU=>trivial
 |var cs=>
  obtain⟨cur,_,hc⟩:=h;intro c rS;obtain⟨i,hi⟩:=aab rS;obtain⟨u,_,hd⟩:=hc i c hi;exact hd.dB
 |row esz elems=>
  obtain⟨h1,h2,h3,h4,h5⟩:=h;intro cs eL c rS;obtain⟨i,hi⟩:=aab eL;obtain⟨j,hj⟩:=aab rS;have aD:=(Ki.1 hi).1;obtain⟨cur,_,_,hc⟩:=h5 om;obtain⟨u,_,hd⟩:=hc i cs j c hi hj;exact hd.dB
 |mp es=>
  obtain⟨bt,ck,_,_,hc⟩:=h;intro e he;obtain⟨i,hi⟩:=aab he;obtain⟨e',_,_,hd⟩:=hc i e hi;exact hd.dB
 |it cur left=>trivial
 |mo esz es so=>
  obtain⟨bt,ck,_,⟨_,hc⟩,_⟩:=h;intro e he;obtain⟨i,hi⟩:=aab he;obtain⟨e',_,_,_,hd⟩:=hc i e hi;obtain⟨k,v⟩:=e;cases v with
  |ei l=>trivial
  |row n=>exact hd.1
 |iw mid ip seen=>exact h.1
theorem mY.get:∀{m m':Mem},mY m m'->∀(i:Nat)b',m'[i]? =some b'->b'= .aU\/m[i]? =some b'
 |_,_,.nil m,i,b',h=>by simp at h
 |_,_,.cons (b:=b) (b':=b1) (m:=m) (m':=m') h hm,i,b',hi=>by
  cases i with
  |zero=>simp at hi;subst hi;rcases h with rfl|rfl<;>simp
  |succ i=>simpa using hm.get i b' (by simpa using hi)
theorem Mf.aaK{n0:Nat}{s s':St}{ρ:bJ}{w:World}(h:Mf n0 s s')(hM:aA ρ s.mem w):∀b,b∈s'.mem->b.dB s'.mem.length:=by
 rcases h.kI with he|hi
 .intro b hb;obtain⟨i,hi⟩:=aab hb;rcases h.mem.get i b hi with rfl|tL
  .trivial
  .have:=(hM.bk i b tL).dB;rw[he,<-hM.n];exact this
 .exact hi
theorem Mf.view{n0:Nat}{s s':St}(hw:Mf n0 s s'):View n0 s s':=by
 refine⟨hw.n0,hw.len,λρ w mr=>?_⟩
 obtain⟨hM,b9⟩:=mr.Mg hw.mem (hw.aaK mr);refine⟨{ρ with n:=s'.mem.length},hM,⟨λ_ _=>rfl,λ_ h=>h,λ_ h=>.inl h,λk hk=>⟨k,b9 k hk,rfl⟩⟩,λi c hi=>?_⟩
 rcases hw.aZ i c hi with rfl|⟨eQ,Mh⟩
 .have aD:i<s.aZ.length:=by rw[<-hw.len];exact(Ki.1 hi).1
  exact⟨_,vR aD,λ_ _=>trivial⟩
 .refine⟨c,eQ,λv hd=>?_⟩
  have Xc:c.dB s'.mem.length:=by
   rcases Mh with he|Mh
   .rw[he,<-mr.n];exact hd.dB
   .exact Mh
  exact hd.cut Xc
theorem Inv.Mg{st jD:St}{ρ:bJ}{a:Act}{w:World}(hI:Inv N ρ0 m0 w0 st ρ a w)(mr:ρ0.n=m0.length)(hw:View m0.length st jD):∃U',Inv N ρ0 m0 w0 jD U' a w:=by
 obtain⟨U',hM,hc,hd⟩:=hw.go ρ w hI.mem;refine⟨U',⟨by rw[mr,hM.n];exact hw.hn,λid hid=>(hc.aI id (by rw[<-mr];exact hid)).trans (hI.ext.aI id hid),λb hb=>hc.S b (hI.ext.S b hb),λb hb=>?_,λk hk=>?_,hI.ext.frame,hI.ext.size,hI.ext.os,hI.ext.tape,hI.ext.output⟩,hM,?_,hI.defers.s hc.S,hI.hN,hw.hn⟩
 .rcases hc.S' b hb with h|⟨k,hk,rfl⟩
  .exact hI.ext.S' b h
  .exact .inr (hI.ext.aO k hk)
 .obtain⟨k0,h0,e0⟩:=hc.aO k hk;rw[<-e0];exact hI.ext.aO k0 h0
 .refine⟨hI.aZ.size.trans hw.len.symm,λi c hi=>?_⟩
  obtain⟨c0,vZ,MP⟩:=hd i c hi;obtain⟨v,hv,p0⟩:=hI.aZ.jR i c0 vZ;exact⟨v,hv,MP v p0⟩
end
section
variable {P:Program}
theorem aq.mono{f:Nat}{args:List CV}{m:Mem}{K K':CV->Mem->Prop}(h:aq P f args m K)(hK:∀v m',K v m'->K' v m'):aq P f args m K':=
 ⟨h.1,λρ w vs hM hl hd=>(h.2 ρ w vs hM hl hd).mono λe w'⟨v,r,m',U',he,hk,rL⟩=>⟨v,r,m',U',he,hK _ _ hk,rL⟩⟩
theorem FD{i:I}(hq:tF i=true){e:List CV}{m:Mem}{K:CV->Mem->Prop}(h:step P i e m K):
  ∃v,K v m/\∀K':CV->Mem->Prop,K' v m->step P i e m K':=by
 cases i<;>simp[tF,zk]at hq
 case load agg n a=>
  simp only[step,wu,aW,cq]at h|-;repeat' split at h
  all_goals(try exact h.elim)
  all_goals grind
 all_goals simp only[step,aW,cq]at h|-
 all_goals(repeat' split at h)
 all_goals(try exact h.elim)
 all_goals(try(exact⟨_,h,λ_ h=>h⟩))
 all_goals grind
theorem JD{i:I}(hq:zk i=true){e:List CV}{m:Mem}{K:CV->Mem->Prop}(h:step P i e m K):
  ∃v,K v m/\∀(m':Mem)(K':CV->Mem->Prop),K' v m'->step P i e m' K':=by
 cases i<;>simp[zk]at hq
 all_goals simp only[step,aW,cq]at h|-
 all_goals(repeat' split at h)
 all_goals(try exact h.elim)
 all_goals(try(exact⟨_,h,λ_ _ h=>h⟩))
 all_goals grind
theorem zE{i:I}{e:List CV}{m:Mem}{K K':CV->Mem->Prop}(h:step P i e m K)(hK:∀v m',K v m'->K' v m'):step P i e m K':=by
 cases i
 case call f args=>
  simp only[step]at h|-;split at h
  .exact h.mono hK
  .exact h.elim
 case load agg n a=>
  simp only[step,wu,aW,cq]at h|-;repeat' split at h
  all_goals(try exact h.elim)
  all_goals grind
 case len k x=>
  simp only[step,aW,cq]at h|-;repeat' split at h
  all_goals(try exact h.elim)
  all_goals grind
 all_goals simp only[step,aW,cq,gP,fq]at h|-
 all_goals(try exact hK _ _ h)
 all_goals(try(repeat' split at h))
 all_goals(try exact h.elim)
 all_goals(try exact hK _ _ h)
 all_goals grind
theorem tQ{e e':List CV}:∀{xs:List X},(∀x,x∈xs->x.ev e=x.ev e')->Hx e xs=Hx e' xs
 | [],_=>rfl
 |x::r,h=>by simp only[Hx];rw[h x aC,tQ λy hy=>h y (by simp[hy])]
theorem vd{e e':List CV}:∀{ps:List (Nat×Nat×X)}{z:List CC},(∀x,x∈ps.map (λp=>p.2.2)->x.ev e=x.ev e')->oM e z ps=oM e' z ps
 | [],_,_=>rfl
 |(o,s,x)::r,z,h=>by
  simp only[oM];rw[h x aC];have ih:=λz=>vd (ps:=r) (z:=z) λy hy=>h y (by simp at hy|-;exact .inr hy)
  simp only[ih]
theorem ve{e e':List CV}{esz:Nat}:∀{ps:List (Nat×X)}{z:List (List CC)},(∀x,x∈ps.map (λp=>p.2)->x.ev e=x.ev e')->uQ e esz z ps=uQ e' esz z ps
 | [],_,_=>rfl
 |(i,x)::r,z,h=>by
  simp only[uQ];rw[h x aC];have ih:=λz=>ve (esz:=esz) (ps:=r) (z:=z) λy hy=>h y (by simp at hy|-;exact .inr hy)
  simp only[ih]
theorem FE{i:I}{e e':List CV}{m:Mem}{K:CV->Mem->Prop}(hx:∀x,x∈i.xs->x.ev e=x.ev e')(h:step P i e m K):step P i e' m K:=by
 cases i<;>simp only[I.xs,aaL,adb,or_false,forall_eq_or_imp,forall_eq]at hx
 case build z ps=>simpa only[step,vd hx]using h
 case nI esz z len ps=>simpa only[step,ve hx]using h
 case fn f eM=>simpa only[step,tQ hx]using h
 case call f args=>simpa only[step,hx.1,tQ hx.2]using h
 case load agg n a=>simpa only[step,wu,hx]using h
 case ko mx xs=>
  rcases xs with _|⟨x,_|⟨y,_|⟨z,r⟩⟩⟩
  .exact h
  .exact h
  .have h1:=hx x aC;have h2:=hx y aC;simpa only[step,h1,h2]using h
  .exact h
 case oI esz x lo hi mx=>
  have MQ:∀(o:Option X)(d:Nat),(∀y,y∈o.toList->y.ev e=y.ev e')->lq e o d=lq e' o d:=λo d ho=>by
   cases o with
   |none=>rfl
   |some y=>simp only[lq];rw[ho y aC]
  have hz:∀(o:Option X),(∀y,y∈o.toList->y.ev e=y.ev e')->E6 e o=E6 e' o:=λo ho=>by
   cases o with
   |none=>rfl
   |some y=>simp only[E6];rw[ho y aC]
  have h1:∀d,lq e lo d=lq e' lo d:=λd=>MQ lo d λy hy=>hx.2 y (by simp[hy])
  have h2:∀d,lq e hi d=lq e' hi d:=λd=>MQ hi d λy hy=>hx.2 y (by simp[hy])
  have h3:E6 e hi=E6 e' hi:=hz hi λy hy=>hx.2 y (by simp[hy])
  cases mx with
  |none=>simpa only[step,hx.1,h1,h2]using h
  |some y=>
   have h4:y.ev e=y.ev e':=hx.2 y aC;simpa only[step,hx.1,h1,h2,h3,h4]using h
 case I6 x lo hi=>
  have MQ:∀(o:Option X)(d:Nat),(∀y,y∈o.toList->y.ev e=y.ev e')->lq e o d=lq e' o d:=λo d ho=>by
   cases o with
   |none=>rfl
   |some y=>simp only[lq];rw[ho y aC]
  have h1:∀d,lq e lo d=lq e' lo d:=λd=>MQ lo d λy hy=>hx.2 y (by simp[hy])
  have h2:∀d,lq e hi d=lq e' hi d:=λd=>MQ hi d λy hy=>hx.2 y (by simp[hy])
  simpa only[step,hx.1,h1,h2]using h
 case len k x=>
  match k with
  |0=>simpa only[step,hx]using h
  |1=>simpa only[step,hx]using h
  |2=>simpa only[step,hx]using h
  |k+3=>simpa only[step,hx]using h
 all_goals first
  |(simpa only[step,hx,hx.1,hx.2]using h)
  |(simpa only[step,hx]using h)
  |(simpa only[step]using h)
end
end Go.AM
