/- Part 6 of 16. -/
import Derived.Test.YtodckkkbiidffaaGreatDoorH02
import Derived.Test.YtodckkkbiidffaaGreatDoorH03
import Derived.Test.YtodckkkbiidffaaGreatDoorH04
import Derived.Test.YtodckkkbiidffaaGreatDoorH05
import Derived.WideKeyRuns
import Derived.Laws.IdiomStrings
import Derived.Laws.MakeOwn
import Derived.MapKept
import Derived.Maps.RangeRun
set_option linter.unusedVariables false
set_option linter.unusedSimpArgs false
set_option linter.unnecessarySimpa false
set_option maxRecDepth 100000
set_option maxHeartbeats 0
namespace Go.AM
open Go.MapKept
section
variable {P:Program} {ρ:bG} {m:Mem} {w:World} {aX:List CV} {a:Act} {K:CV->Mem->Prop}
theorem y9:∀{E:List (List CC)}{xs:List Int},vR E=some xs->E=xs.map λn=>[.ah (.val (.int .u8 n))]
 | [],xs,h=>by simp[vR]at h;subst h;rfl
 |cs::r,xs,h=>by
  unfold vR at h;split at h
  .rename_i heq;cases heq
  .rename_i n r' heq;cases heq;split at h
   .rename_i l hl;cases h;rw[y9 hl];rfl
   .cases h
  .cases h
theorem IQ(hM:ax ρ m w)(hE:bj ρ w aX a.tmps){s d e:TypeId}{x:Operand}{x':X}(hs:P.underlying s=some (.slice e))(he:P.underlying e=some (.int .u8))(hd:P.underlying d=some .string)(hx:bn x=some x')(h:step P (.UJ x') aX m K):db P (do pure (Next.value (<-convert s d (a.eval x)))) ρ m w K:=by
 have cg:=aQ hE hx;simp only[step]at h;obtain⟨E,Av,h⟩:=aV.1 h;obtain⟨xs,Y5,hK⟩:=aV.1 h;obtain⟨ad,cap,vs,hv,h1,h2,F⟩:=nD hM Av cg;have hEx:=y9 Y5;have Ed:∀i,i<xs.length->vs[i]? =some (.int .u8 (xs.getD i 0)):=by
  intro i hi;have hg:E[i]? =some [.ah (.val (.int .u8 xs[i]))]:=by rw[hEx,Sf,vl hi];rfl
  obtain⟨u,hu,cu⟩:=F.jD i _ 0 _ hg rfl;cases cu with
  |val v hp=>
   rw[show i=i*1+0 by omega,hu]
   simp[List.getD,vl hi]
 have hlen:E.length=xs.length:=by rw[hEx];simp
 refine db.pure hM (v:= .string (strOfNums xs)) ?_ hK (cz rfl);rw[hv,Sem.run_bind];rcases abz E.length with h0|h0
 .have VR:xs=[]:=aai om;subst VR;rw[h0];cases ad with
  |none=>rw[run_convert_bytes_nil (P:=P) w s e hs he 0 cap d hd];rfl
  |some ad=>
   obtain⟨b,off,sp⟩:=ad;have:(convert s d (.slice (some ⟨b,off,sp⟩) 0 cap)).run P w= .ok (.string (strOfNums [])) w:=by
    rw[run_convert_bytes_string w s d e _ 0 cap hs he hd,run_bytesToString w _ 0 cap [] (by simp[loadCells,loadCellsFrom])]
    rfl
   rw[this];rfl
 .obtain⟨b,off,rfl,hc⟩:=F.SS h0;rw[run_convert_bytes_arg (P:=P) w s e hs he b off E.length cap xs hlen.symm (λi hi=>hc i _ (Ed i om)) d hd]
  rfl
theorem rE(hM:ax ρ m w){esz cap:Nat}{elems:List (List CC)}{cells:Array Value}{w':World}(Rs:eG w w')(bW:mf (esz=1) w' w.heap.size cells)(dj:cap*esz<=cells.size)(hlen:elems.length<=cap)(bc:cap<=maxLen)(nV:∀cs,cs∈elems->cs.length=esz)(hd:∀(i:Nat)cs(j:Nat)c,elems[i]? =some cs->cs[j]? =some c->∃u,cells[i*esz+j]? =some u/\bi ρ w .none c u):
  ∃U',ax U' (m++ [.row esz elems]) w'/\Ext ρ m w U' (m++ [.row esz elems]) w'/\
   bZ U' w' (.rv (.one (.row m.length esz 0 none))) (.slice (some ⟨w.heap.size,0,none⟩) elems.length cap):=by
 have aD:w.heap.size<w'.heap.size:=bW.lt;let l:vH:=⟨w.heap.size,0,elems.length,cap⟩;have hn:=hM.n;have bM:(ρ.push l).aH (.aj m.length)=l:=by rw[<-hn];exact ρ.fT l
 have g:iA ρ w (ρ.push l) w':=⟨by simp[bG.push],λk hk=>ρ.eL l hk,λb hb=>hb,λb hb=>Rs.heap b (hM.S b hb)⟩
 have hb:cI (ρ.push l) w' m.length (.row esz elems):=by
  refine⟨by rw[bM],by rw[bM];exact hlen,by rw[bM];exact bc,nV,λ_=>⟨cells,by rw[bM];exact bW,by rw[bM];simpa[l]using dj,λi cs j c hi hj=>?_⟩⟩
  obtain⟨u,hu,cu⟩:=hd i cs j c hi hj;exact⟨u,by rw[bM];simpa[l]using hu,(cu.ce g aC).wa _⟩
 obtain⟨h1,h2⟩:=hM.push (l:=l) Rs (T5 _) aD hb (λi cs j c hi hj=>by obtain⟨u,hu,cu⟩:=hd i cs j c hi hj;exact cu.Ao)
 refine⟨_,h1,h2,by simp[bG.push,hn],?_⟩
 rw[bM];refine⟨aC,aC,hlen,bc,_,rfl,λ_=>?_⟩
 simp[l]
theorem IS(hM:ax ρ m w)(hE:bj ρ w aX a.tmps){s d e:TypeId}{x:Operand}{x':X}(hs:P.underlying s=some .string)(hd:P.underlying d=some (.slice e))(he:P.underlying e=some (.int .u8))(hx:bn x=some x')(h:step P (.Vj x') aX m K):db P (do pure (Next.value (<-convert s d (a.eval x)))) ρ m w K:=by
 have cg:=aQ hE hx;simp only[step]at h;generalize a.eval x=v at cg|-;generalize x'.ev aX=c at cg h;split at h
 .rename_i str;obtain⟨rfl,hp⟩:=bC cg;obtain⟨dj,hK⟩:=h;rw[gC,b7]at hK;have ek:=grownCap_ge w str.size 0 e;have hle:grownCap w str.size 0 e<=maxLen:=grownCap_le_maxLen w _ 0 e (by unfold maxLen;omega)
  have eC:(bytesRow str (grownCap w str.size 0 e)).size=grownCap w str.size 0 e:=by simp only[bytesRow,Array.size_append,Array.size_map,Array.size_replicate];have:str.data.size=str.size:=rfl;omega
  have hlen:(qB str).length=str.size:=by simp[qB]
  obtain⟨U',g1,g2,g3⟩:=rE hM (esz:=1) (cap:=grownCap w str.size 0 e) (elems:=qB str) (cells:=bytesRow str (grownCap w str.size 0 e))
   (w':=w.drew.alloc (.cells (bytesRow str (grownCap w str.size 0 e)) e ((bytesRow str (grownCap w str.size 0 e)).size,(bytesRow str (grownCap w str.size 0 e)).size+1)))
   ((eG.drew w).trans (eG.alloc w.drew _)) ⟨e,_,heap_alloc_new w.drew _,aC,(λi hi=>by simp;omega),.inl rfl⟩ (by rw[eC];omega) (by rw[hlen];exact ek) hle
   (λcs eC=>by simp only[qB,aas]at eC;obtain⟨_,_,rfl⟩:=eC;rfl)
   (λi cs j c hi hj=>by
    simp only[qB,Sf]at hi;obtain⟨b,hb,rfl⟩:=aau.1 hi;cases j with
    |zero=>
     simp at hj;subst hj;refine⟨.int .u8 b.toNat,?_,.val _ rfl⟩;have tn:str.data[i]? =some b:=by simpa using hb
     have aD:=(aaw.1 tn).1;simp only[bytesRow,Nat.mul_one,acB];rw[acv (by simpa using aD),adg,tn]
     rfl
    |succ j=>simp at hj)
  rw[hlen]at g3;exact⟨_,_,_,_,_,U',by rw[Sem.run_bind,run_bytes_of_string w s d e str hs hd he];rfl,.inl rfl,hK,g1,g3,g2⟩
 .exact h.elim
theorem yq(hM:ax ρ m w)(hE:bj ρ w aX a.tmps){t e:TypeId}{i:TypeInfo}{z:List CC}{x y:Operand}{x' y':X}(ht:P.underlying t=some (.slice e))(hi:P.info? e=some i)(hz:d6 P e=some z)(dj:i.size=z.length)(cH:0<z.length)(hb:0<i.bytes)(hx:bn x=some x')(hy:bn y=some y')(h:step P (.pu i.size i.bytes z x' y') aX m K):db P (do pure (Next.value (<-Instr.makeSlice t (a.eval x) (a.eval y)))) ρ m w K:=by
 simp only[step]at h;obtain⟨l,hl,h⟩:=aV.1 h;obtain⟨c,hc,h⟩:=aV.1 h;rcases cf.1 h with⟨oI,h⟩|⟨_,h⟩
 case inr=>exact h.elim
 have oI:l=c:=aam oI;subst oI;obtain⟨kD,hK⟩:=h;rw[gC,b7]at hK;have nat:∀{c:CV}{v:Value}{k:Nat},qA c=some k->bZ ρ w c v->∃kd,v= .int kd (k:Int):=by
  intro c v k h hd;unfold qA at h;split at h
  .cases h;obtain⟨rfl,_⟩:=bC hd;exact⟨_,rfl⟩
  .cases h
 obtain⟨kl,yr⟩:=nat hl (aQ hE hx);obtain⟨kc,VS⟩:=nat hc (aQ hE hy);have Eb:=hz;simp only[d6,T3,OJ]at Eb;obtain⟨i',eH,zv,PB,Px⟩:=Eb;rw[hi]at eH;cases eH;obtain⟨Zq,IT⟩:=fg (ρ:=ρ) (w:=w) Px;have Pa:zv.cells.size=z.length:=by simpa using Zq
 have EI:l<=140737488355328:=abP (acW _ hb) kD;obtain⟨U',g1,g2,g3⟩:=rE hM (esz:=i.size) (cap:=l) (elems:=gm l z) (cells:=madeCells zv.cells (l*i.size)) (w':=w.alloc (.cells (madeCells zv.cells (l*i.size)) e))
  (eG.alloc w _) (mf.new w _ e) (by rw[size_madeCells];exact T5 _) (by rw[fM];simp) (by unfold maxLen;omega)
  (λcs eC=>by rw[fM]at eC;rw[acp eC,dj])
  (λk cs j cc hk hj=>by
   rw[fM]at hk;have kg:=(JJ.1 hk).1;simp at kg;have eC:cs=z:=by have:=Sj hk;exact acp this
   subst eC;have yu:=(JJ.1 hj).1;obtain⟨u,hu,cu⟩:=IT j cc hj;refine⟨u,?_,cu⟩;have aD:k*i.size+j<l*i.size:=by have:(k+1)*i.size<=l*i.size:=aaQ _ kg;rw[aaZ,ace]at this;omega
   simp only[madeCells,adg,Array.getElem?_range];rw[if_pos aD];simp only[aax,aat];have hm:(k*i.size+j)%zv.cells.size=j:=by rw[Pa,dj,acT,adB,adu yu]
   rw[hm];have va:zv.cells[j]? =some u:=by simpa using hu
   rw[getElem!_def,va])
 have VT:(gm l z).length=l:=by rw[fM];simp
 rw[VT]at g3;refine⟨_,_,_,_,_,U',?_,.inl rfl,hK,g1,g3,g2⟩;rw[yr,VS,Sem.run_bind,run_make (P:=P) w t e i zv ht hi PB kl kc (l:Int) (l:Int) om (acN _) ?_ om]
 .rfl
 .have:i.bytes*l<=140737488355328:=by rw[acT];exact kD
  have h2:((i.bytes*l:Nat):Int)<=((140737488355328:Nat):Int):=Int.ofNat_le.2 this;rw[Int.natCast_mul]at h2;exact Int.le_trans h2 om
def gp:Ky->TypeDesc
 | .i k=>.int k
 | .s=>.string
 | .b=>.bool
 | .a2 _=>.bool
def lX(kk:Ky)(v:Value):Bool:=cn v&&ku kk v
theorem wn{kk:Ky}{v:Value}(h:ku kk v=true)(hp:cn v=true):lX kk v=true:=by simp[lX,h,hp]
theorem mO{t:TypeId}{kk:Ky}{v:Value}(h:oz P t=some kk)(hk:lX kk v=true):P.underlying t=some (gp kk):=by
 have na:∀k,kk≠.a2 k:=λk e=>by subst e;cases v<;>simp[lX,ku,cn]at hk
 unfold oz at h;split at h
 case h_4=>
  split at h
  .split at h
   .cases h;exact absurd rfl (na _)
   .cases h
  .cases h
 all_goals(simp at h<;>subst h<;>assumption)
theorem oM{kk:Ky}{v:Value}(h:lX kk v=true):IsKey (gp kk) v:=by
 cases kk<;>cases v<;>simp_all[lX,ku,cn,IsKey,gp]
theorem pz{kk:Ky}{a b:Value}{t:Bool}(ha:lX kk a=true)(h:gS a b=some t):Instr.sameNow (gp kk) a b=some t/\(t=true->a=b)/\(t=false->a≠b):=by
 cases kk<;>cases a<;>simp[lX,ku,cn]at ha<;>cases b<;>simp only[gS,reduceCtorEq]at h
 .rename_i k x k' y;split at h
  .rename_i hk;have hk:=of_decide_eq_true hk;subst hk;cases h;refine⟨by simp[Instr.sameNow,gp],λh=>by simp at h;rw[h],λh=>by simp at h;simpa using h⟩
  .cases h
 .rename_i x y;cases h;refine⟨by simp[Instr.sameNow,gp],λh=>by rw[(bytes_beq _ _).1 h],λh e=>?_⟩
  cases e;rw[(bytes_beq _ _).2 rfl]at h;cases h
 .rename_i x y;cases h;refine⟨by simp[Instr.sameNow,gp],λh=>by simp at h;rw[h],λh=>by simp at h;simpa using h⟩
theorem LQ{kt:TypeId}{k:IntKind}(h:oz P kt=some (.a2 k)):∃e,P.underlying kt=some (.array 2 e)/\P.underlying e=some (.int k)/\eE P e=some 1:=by
 unfold oz at h;split at h
 case h_4=>
  rename_i n e he;split at h
  .rename_i k' fS;split at h
   .rename_i hc;cases h;exact⟨e,by rw[he,hc.1],fS,hc.2⟩
   .cases h
  .cases h
 all_goals cases h
theorem EQ{k:IntKind}{v:Value}(h:ku (.a2 k) v=true):∃x y,v= .agg #[.int k x,.int k y]:=by
 cases v<;>simp only[ku,ab0]at h
 rename_i a;split at h
 .rename_i k1 x k2 y he;simp only[aac,decide_eq_true_eq]at h;obtain⟨rfl,rfl⟩:=h;refine⟨x,y,?_⟩;rw[<-Array.toArray_toList (xs:=a),he]
 .cases h
theorem Cq{kt:TypeId}{k:IntKind}{v:Value}(hk:oz P kt=some (.a2 k))(h:ku (.a2 k) v=true)(e:Bool)(n:Nat):(Instr.checkKey e (n+2) kt v).run P w= .ok () w:=by
 obtain⟨el,h1,h2,h3⟩:=LQ hk;obtain⟨x,y,rfl⟩:=EQ h;have ha:dW P el=some false:=by simp[dW,h2]
 have p1:=mL (w:=w) (t:=el) (pre:=[]) (us:=[.int k x]) (post:=[.int k y]) h3 (.inr ⟨ha,rfl⟩);have p2:=mL (w:=w) (t:=el) (pre:=[.int k x]) (us:=[.int k y]) (post:=[]) h3 (.inr ⟨ha,rfl⟩);simp[oG,ha]at p1 p2;have dj:=ff (w:=w) h3;have hc:∀z,(Instr.checkKey e (n+1) el (.int k z)).run P w= .ok () w:=λz=>by simp[Instr.checkKey,run_underlying h2]
 rw[Instr.checkKey];simp only[Sem.run_bind,run_underlying h1,Result.andThen_ok];simp[Std.Legacy.Range.forIn_eq_forIn_range',Std.Legacy.Range.size,List.range',dj,p1,p2,hc]
theorem LR{kt:TypeId}{k:IntKind}{a b:Value}{t:Bool}(hk:oz P kt=some (.a2 k))(ha:ku (.a2 k) a=true)(h:gS a b=some t):(Op.equal kt a b).run P w= .ok t w/\(t=true->a=b):=by
 obtain⟨el,h1,h2,h3⟩:=LQ hk;obtain⟨x,y,rfl⟩:=EQ ha;cases b<;>simp only[gS,reduceCtorEq]at h
 rename_i b;obtain⟨l⟩:=b;unfold Vm at h;split at h
 .rename_i k1 x1 k2 y1 k3 x2 k4 y2 e1 e2;simp only[adA,Value.int.injEq,and_true]at e1;obtain⟨⟨rfl,rfl⟩,rfl,rfl⟩:=e1;subst e2;split at h
  .rename_i hc;simp only[aac,decide_eq_true_eq]at hc;obtain⟨rfl,rfl⟩:=hc;cases h;have Vz:=h3;simp only[eE,aau]at Vz;obtain⟨i,hi,IF⟩:=Vz;have hc:P.cellsOf el=1:=by simp[Program.cellsOf,hi,IF]
   have cN:=nC (w:=w) h2 h3 9998 [.int k x,.int k y] [.int k x2,.int k y2] [] [] (x==x2&&y==y2) rfl (by simp[gm,i5,O4])
   refine⟨?_,λh=>by simp at h;rw[h.1,h.2]⟩
   show(Op.equalIn (9999+1) kt (.agg _) (.agg _)).run P w=_;rw[run_equalIn_array w 9999 _ _ h1 hi,hc,ac4];simpa using cN
  .cases h
 .cases h
theorem Cr{kt:TypeId}{k:IntKind}{kv:Value}(pA:oz P kt=some (.a2 k))(hk:ku (.a2 k) kv=true):∀(es:List ME)(br:List MapEntry)(n:Nat)(o:Option RV),br.length=es.length->
  (∀(i:Nat)e,es[i]? =some e->∃e',br[i]? =some e'/\e'.key=e.key/\df ρ w e.val e'.val)->rq kv es=some o->
  match o with
  |none=>(Instr.findAsking kt kv br n).run P w= .ok none w
  |some r=>∃j v,(Instr.findAsking kt kv br n).run P w= .ok (some (n+j,v)) w/\df ρ w r v
 | [],[],n,o,_,_,h=>by simp[rq]at h;subst h;simp[Instr.findAsking]
 | [],_::_,_,_,h,_,_=>by simp at h
 |_::_,[],_,_,h,_,_=>by simp at h
 |e::es,e'::br,n,o,hl,hr,h=>by
  obtain⟨e0,h0,fU,cg⟩:=hr 0 e rfl;simp at h0;subst h0;simp only[rq]at h;cases hq:gS kv e.key with
  |none=>rw[hq]at h;cases h
  |some t=>
   obtain⟨q1,_⟩:=LR (w:=w) pA hk hq;rw[<-fU]at q1;cases t with
   |true=>
    rw[hq]at h;cases h;exact⟨0,e'.val,by simp[Instr.findAsking,q1],cg⟩
   |false=>
    rw[hq]at h;have ih:=Cr pA hk es br (n+1) o (by simpa using hl) (λi x hx=>by simpa using hr (i+1) x (by simpa using hx)) h
    cases o with
    |none=>simpa[Instr.findAsking,q1]using ih
    |some r=>
     obtain⟨j,v,h1,h2⟩:=ih;exact⟨j+1,v,by simp[Instr.findAsking,q1,h1];omega,h2⟩
theorem Hg{kt:TypeId}{k:IntKind}{kv:Value}(pA:oz P kt=some (.a2 k))(hk:ku (.a2 k) kv=true)(r:RV):∀(es:List ME)(br:List MapEntry)(n:Nat)(l:List ME),br.length=es.length->
  (∀(i:Nat)e,es[i]? =some e->∃e',br[i]? =some e'/\e'.key=e.key/\df ρ w e.val e'.val)->Ai kv r es=some l->
  ((Instr.findAsking kt kv br n).run P w= .ok none w/\l=es++ [⟨kv,r⟩])\/∃j e',(Instr.findAsking kt kv br n).run P w= .ok (some (n+j,e'.val)) w/\br[j]? =some e'/\e'.key=kv/\l=es.set j ⟨kv,r⟩
 | [],[],n,o,_,_,h=>by
  simp[Ai]at h;subst h;exact .inl ⟨by simp[Instr.findAsking],rfl⟩
 | [],_::_,_,_,h,_,_=>by simp at h
 |_::_,[],_,_,h,_,_=>by simp at h
 |e::es,e'::br,n,o,hl,hr,h=>by
  obtain⟨e0,h0,fU,cg⟩:=hr 0 e rfl;simp at h0;subst h0;simp only[Ai]at h;cases hq:gS kv e.key with
  |none=>rw[hq]at h;cases h
  |some t=>
   obtain⟨q1,q2⟩:=LR (w:=w) pA hk hq;rw[<-fU]at q1;cases t with
   |true=>
    rw[hq]at h;cases h;exact .inr ⟨0,e',by simp[Instr.findAsking,q1],rfl,by rw[fU,q2 rfl],rfl⟩
   |false=>
    rw[hq]at h;simp only at h;split at h
    .rename_i l' Ax;cases h;rcases Hg pA hk r es br (n+1) l' (by simpa using hl) (λi x hx=>by simpa using hr (i+1) x (by simpa using hx)) Ax with⟨h1,rfl⟩|⟨j,e1,h1,h2,h3,rfl⟩
     .exact .inl ⟨by simpa[Instr.findAsking,q1]using h1,rfl⟩
     .exact .inr ⟨j+1,e1,by simp[Instr.findAsking,q1,h1];omega,by simpa using h2,h3,rfl⟩
    .cases h
theorem wo{kt:TypeId}{k:IntKind}(hk:oz P kt=some (.a2 k))(x:Value)(es:List MapEntry):(Instr.findKey kt x es).run P w=(Instr.findAsking kt x es).run P w:=by
 obtain⟨el,h1,_⟩:=LQ hk;exact run_findKey_eq w (by simp[h1]) x es
theorem LS{k:IntKind}{kv:Value}(hk:ku (.a2 k) kv=true):(Instr.keyThatStays kv kv).run P w= .ok kv w:=by obtain⟨x,y,rfl⟩:=EQ hk;simp[Instr.keyThatStays,Instr.sameBits]
theorem wq{cs:List CC}{kv v:Value}(h:td cs=some kv)(hd:bZ ρ w (.rv (.agg cs)) v):v=kv:=by
 unfold td at h;split at h
 .cases h;obtain⟨us,rfl,l,d⟩:=hd;simp at l
  match us,l with
  | [a,b],_=>
   obtain⟨v1,e1,d1⟩:=d 0 _ rfl;obtain⟨v2,e2,d2⟩:=d 1 _ rfl;cases e1;cases e2;obtain⟨rfl,_⟩:=bC (ρ:=ρ) (w:=w) d1;obtain⟨rfl,_⟩:=bC (ρ:=ρ) (w:=w) d2;rfl
 .cases h
theorem Cs{kk:Ky}{cs:List CC}{kv:Value}(h:td cs=some kv)(fl:ku kk kv=true):∃k,kk= .a2 k:=by
 unfold td at h;split at h
 .cases h;cases kk<;>simp[ku]at fl
  exact⟨_,rfl⟩
 .cases h
theorem uH{kk:Ky}{kv:Value}(hk:lX kk kv=true):∀(es:List ME)(br:List MapEntry)(n:Nat)(o:Option RV),br.length=es.length->
  (∀(i:Nat)e,es[i]? =some e->∃e',br[i]? =some e'/\e'.key=e.key/\df ρ w e.val e'.val)->rq kv es=some o->
  match o with
  |none=>Instr.findNow (gp kk) kv br n=some none
  |some r=>∃j v,Instr.findNow (gp kk) kv br n=some (some (n+j,v))/\df ρ w r v
 | [],[],n,o,_,_,h=>by simp[rq]at h;subst h;rfl
 | [],_::_,_,_,h,_,_=>by simp at h
 |_::_,[],_,_,h,_,_=>by simp at h
 |e::es,e'::br,n,o,hl,hr,h=>by
  obtain⟨e0,h0,fU,cg⟩:=hr 0 e rfl;simp at h0;subst h0;simp only[rq]at h;cases hq:gS kv e.key with
  |none=>rw[hq]at h;cases h
  |some t=>
   obtain⟨q1,q2,q3⟩:=pz hk hq;rw[<-fU]at q1;cases t with
   |true=>
    rw[hq]at h;cases h;exact⟨0,e'.val,by simp[Instr.findNow,q1],cg⟩
   |false=>
    rw[hq]at h;have ih:=uH hk es br (n+1) o (by simpa using hl) (λi x hx=>by simpa using hr (i+1) x (by simpa using hx)) h
    cases o with
    |none=>simpa[Instr.findNow,q1]using ih
    |some r=>
     obtain⟨j,v,h1,h2⟩:=ih;exact⟨j+1,v,by simp[Instr.findNow,q1,h1];omega,h2⟩
theorem wt{kk:Ky}{kv:Value}(hk:lX kk kv=true)(r:RV):∀(es:List ME)(br:List MapEntry)(n:Nat)(l:List ME),br.length=es.length->
  (∀(i:Nat)e,es[i]? =some e->∃e',br[i]? =some e'/\e'.key=e.key/\df ρ w e.val e'.val)->Ai kv r es=some l->
  (Instr.findNow (gp kk) kv br n=some none/\l=es++ [⟨kv,r⟩])\/∃j e',Instr.findNow (gp kk) kv br n=some (some (n+j,e'.val))/\br[j]? =some e'/\e'.key=kv/\l=es.set j ⟨kv,r⟩
 | [],[],n,o,_,_,h=>by simp[Ai]at h;subst h;exact .inl ⟨rfl,rfl⟩
 | [],_::_,_,_,h,_,_=>by simp at h
 |_::_,[],_,_,h,_,_=>by simp at h
 |e::es,e'::br,n,o,hl,hr,h=>by
  obtain⟨e0,h0,fU,cg⟩:=hr 0 e rfl;simp at h0;subst h0;simp only[Ai]at h;cases hq:gS kv e.key with
  |none=>rw[hq]at h;cases h
  |some t=>
   obtain⟨q1,q2,q3⟩:=pz hk hq;rw[<-fU]at q1;cases t with
   |true=>
    rw[hq]at h;cases h;exact .inr ⟨0,e',by simp[Instr.findNow,q1],rfl,by rw[fU,q2 rfl],rfl⟩
   |false=>
    rw[hq]at h;simp only at h;split at h
    .rename_i l' Ax;cases h;rcases wt hk r es br (n+1) l' (by simpa using hl) (λi x hx=>by simpa using hr (i+1) x (by simpa using hx)) Ax with⟨h1,rfl⟩|⟨j,e1,h1,h2,h3,rfl⟩
     .exact .inl ⟨by simpa[Instr.findNow,q1]using h1,rfl⟩
     .exact .inr ⟨j+1,e1,by simp[Instr.findNow,q1,h1];omega,by simpa using h2,h3,rfl⟩
    .cases h
theorem uI(hM:ax ρ m w){t:TypeId}{r:Option Value}(hr:r=none\/∃k n kt et,r=some (.int k n)/\P.underlying t=some (.map kt et))(h:step P .ut aX m K):db P (do pure (Next.value (<-Instr.makeMap t r))) ρ m w K:=by
 simp only[step,gC,b7]at h;let l:vH:=⟨w.heap.size,0,0,0⟩;have hn:=hM.n;have bM:(ρ.push l).aH (.aj m.length)=l:=by rw[<-hn];exact ρ.fT l
 obtain⟨h1,h2⟩:=hM.push (bk:= .mp []) (l:=l) (eG.alloc w (.map #[] 0)) (T5 _) (by simp[l]) (by refine⟨#[],0,⟨?_,aC,aC⟩,rfl,aC⟩;rw[bM];exact(heap_alloc w _).1) trivial
 refine⟨.value (.map (some w.heap.size)),.map (some w.heap.size),w.alloc (.map #[] 0),_,_,_,?_,.inl rfl,h,h1,⟨by simp[bG.push,hn],by rw[bM]⟩,h2⟩
 rcases hr with rfl|⟨k,n,kt,et,rfl,ht⟩
 .simp[Instr.makeMap]
 .simp[Instr.makeMap,run_underlying ht,asInt,asIntOf]
theorem tq{t:TypeId}{z:RV}(h:Cb P t=some z):∃v,(zeroValue t).run P w= .ok v w/\df ρ w z v:=by
 simp only[Cb,T3,OJ]at h;obtain⟨i,hi,zv,PB,h⟩:=h;refine⟨zv,by simp[zeroValue,typeInfo,hi,PB],?_⟩
 split at h
 .rename_i cs;simp only[OJ]at h;obtain⟨zz,hz,h⟩:=h;cases h;obtain⟨h1,h2⟩:=fg (ρ:=ρ) (w:=w) hz;exact⟨cs.toList,aC,h1,h2⟩
 .simp only[OJ]at h;obtain⟨c,hc,h⟩:=h;cases h;exact qC hc
theorem uJ(hM:ax ρ m w){c:CV}{v:Value}{es:List ME}(h:G0 m c=some es)(hd:bZ ρ w c v):
  (v= .map none/\es=[])\/∃b br clock,v= .map (some b)/\w.heap[b]? =some (.map br clock)/\Ag ρ w es br:=by
 unfold G0 at h;split at h
 .rename_i id;split at h
  .rename_i Zn hb;cases h;rw[aT]at hb;obtain⟨aD,rfl⟩:=hd;obtain⟨br,clock,h1,h2⟩:=hM.bk id _ hb;exact .inr ⟨_,br,clock,rfl,h1.1,h2⟩
  .cases h
 .cases h;obtain⟨rfl,_⟩:=bC hd;exact .inl ⟨rfl,rfl⟩
 .cases h
theorem nF{kk:Ky}{kv:Value}(hk:lX kk kv=true):∀(es:List MO)(br:List MapEntry)(n:Nat)(o:Option (Nat×MV)),br.length=es.length->
  (∀(i:Nat)e,es[i]? =some e->∃e',br[i]? =some e'/\e'.key=e.key)->iH kv es n=some o->
  match o with
  |none=>Instr.findNow (gp kk) kv br n=some none
  |some (j,mv)=>∃i e',j=n+i/\es[i]? =some ⟨kv,mv⟩/\br[i]? =some e'/\Instr.findNow (gp kk) kv br n=some (some (n+i,e'.val))
 | [],[],n,o,_,_,h=>by simp[iH]at h;subst h;rfl
 | [],_::_,_,_,h,_,_=>by simp at h
 |_::_,[],_,_,h,_,_=>by simp at h
 |e::es,e'::br,n,o,hl,hr,h=>by
  obtain⟨e0,h0,fU⟩:=hr 0 e rfl;simp at h0;subst h0;simp only[iH]at h;cases hq:gS kv e.key with
  |none=>rw[hq]at h;cases h
  |some t=>
   obtain⟨q1,q2,q3⟩:=pz hk hq;rw[<-fU]at q1;cases t with
   |true=>
    rw[hq]at h;cases h;have:=q2 rfl;obtain⟨k0,v0⟩:=e;exact⟨0,e',rfl,by simp at this|-;exact this.symm,rfl,by simp[Instr.findNow,q1]⟩
   |false=>
    rw[hq]at h;have ih:=nF hk es br (n+1) o (by simpa using hl) (λi x hx=>by simpa using hr (i+1) x (by simpa using hx)) h
    cases o with
    |none=>simpa[Instr.findNow,q1]using ih
    |some r=>
     obtain⟨j,mv⟩:=r;obtain⟨i,e1,h1,h2,h3,h4⟩:=ih;exact⟨i+1,e1,om,h2,h3,by simp[Instr.findNow,q1,h4];omega⟩
theorem uK{kk:Ky}{kv:Value}(hk:lX kk kv=true)(r:MV):∀(es:List MO)(br:List MapEntry)(n:Nat)(l:List MO),br.length=es.length->
  (∀(i:Nat)e,es[i]? =some e->∃e',br[i]? =some e'/\e'.key=e.key)->mE kv r es=some l->
  (Instr.findNow (gp kk) kv br n=some none/\l=es++ [⟨kv,r⟩])\/∃j e',Instr.findNow (gp kk) kv br n=some (some (n+j,e'.val))/\br[j]? =some e'/\e'.key=kv/\l=es.set j ⟨kv,r⟩
 | [],[],n,o,_,_,h=>by simp[mE]at h;subst h;exact .inl ⟨rfl,rfl⟩
 | [],_::_,_,_,h,_,_=>by simp at h
 |_::_,[],_,_,h,_,_=>by simp at h
 |e::es,e'::br,n,o,hl,hr,h=>by
  obtain⟨e0,h0,fU⟩:=hr 0 e rfl;simp at h0;subst h0;simp only[mE]at h;cases hq:gS kv e.key with
  |none=>rw[hq]at h;cases h
  |some t=>
   obtain⟨q1,q2,q3⟩:=pz hk hq;rw[<-fU]at q1;cases t with
   |true=>
    rw[hq]at h;cases h;exact .inr ⟨0,e',by simp[Instr.findNow,q1],rfl,by rw[fU,q2 rfl],rfl⟩
   |false=>
    rw[hq]at h;simp only at h;split at h
    .rename_i l' Ax;cases h;rcases uK hk r es br (n+1) l' (by simpa using hl) (λi x hx=>by simpa using hr (i+1) x (by simpa using hx)) Ax with⟨h1,rfl⟩|⟨j,e1,h1,h2,h3,rfl⟩
     .exact .inl ⟨by simpa[Instr.findNow,q1]using h1,rfl⟩
     .exact .inr ⟨j+1,e1,by simp[Instr.findNow,q1,h1];omega,by simpa using h2,h3,rfl⟩
    .cases h
theorem Ay{id esz:Nat}{es:List MO}{br:Array MapEntry}(h:br.size=es.length/\∀(i:Nat)e,es[i]? =some e->∃e',br[i]? =some e'/\e'.key=e.key/\cn e.key=true/\bi ρ w (some (id,i,0)) (e.cc esz) e'.val):
  br.toList.length=es.length/\∀(i:Nat)e,es[i]? =some e->∃e',br.toList[i]? =some e'/\e'.key=e.key:=
 ⟨by simpa using h.1,λi e he=>let⟨e',h1,h2,_⟩:=h.2 i e he;⟨e',by simpa using h1,h2⟩⟩
theorem PH(hM:ax ρ m w){t kt vt:TypeId}{z:RV}{kk:Ky}{kv:Value}{b:Bool}(ht:P.underlying t=some (.map kt vt))(hz:Cb P vt=some z)(hk:oz P kt=some kk)(fl:lX kk kv=true){id esz:Nat}{es:List MO}{so:Option (List Nat×Nat)}(c9:m[id]? =some (.mo esz es so))(h:ok (iH kv es 0) λo=>match o with
    |none=>K (uv b z none) m
    |some (_,.row n)=>K (uv b z (some (.one (.row n esz 0 none)))) m
    |some (i,.d5 l)=>ny m λn=>K (uv b z (some (.one (.row n esz 0 none)))) (gn (aW m id (.mo esz (aW es i ⟨kv,.row n⟩) so)) [.row esz (l.map λds=>ds.map .ah)])):
  db P (do pure (Next.value (<-Instr.lookup t (.map (some (ρ.aH (.aj id)).b)) kv b))) ρ m w K:=by
 obtain⟨o,ho,hK⟩:=aV.1 h;have pA:=mO hk fl;have fU:=oM fl;obtain⟨zv,KU,IT⟩:=tq (ρ:=ρ) (w:=w) hz;obtain⟨br,clock,⟨hb,pY⟩,eu,lF⟩:=hM.bk id _ c9;have Hh:=Ay eu;have hf:=nF fl es br.toList 0 o Hh.1 Hh.2 ho;have run:∀(o':Option (Nat×Value)),Instr.findNow (gp kk) kv br.toList 0=some o'->
    (Instr.lookup t (.map (some (ρ.aH (.aj id)).b)) kv b).run P w=((match o' with|some (_,v)=>(Pure.pure (v,true):Sem (Value×Bool))|none=>(do pure (<-zeroValue vt,false))).run P w).andThen λp w'=>.ok (if b then .tuple #[p.1,.bool p.2]else p.1) w':=by
  intro o' e8;cases o' with
  |none=>cases b<;>simp[Instr.lookup,run_underlying ht,Go.MapKept.run_getObj_map hb,run_checkKey pA fU,run_findKey pA e8,Result.andThen,KU]
  |some p=>cases b<;>simp[Instr.lookup,run_underlying ht,Go.MapKept.run_getObj_map hb,run_checkKey pA fU,run_findKey pA e8,Result.andThen]
 have jD:∀(ρ1:bG)(v:Value)(r:RV)(t:Bool),df ρ1 w r v->bZ ρ1 w (.bz [r,.one (.ah (.val (.bool t)))]) (.tuple #[v,.bool t]):=λρ1 v r t hv=>
  ⟨[v,.bool t],rfl,rfl,λi r' hi=>by
   match i,hi with
   |0,hi=>cases hi;exact⟨v,rfl,hv⟩
   |1,hi=>cases hi;exact⟨_,rfl,.val _ rfl⟩⟩
 cases o with
 |none=>
  have h1:=run none hf;simp only[Sem.run_bind,KU,Result.andThen_ok,Sem.run_pure]at h1;cases b with
  |false=>exact db.pure hM (v:=zv) (by rw[Sem.run_bind,h1];rfl) hK IT
  |true=>exact db.pure hM (v:= .tuple #[zv,.bool false]) (by rw[Sem.run_bind,h1];rfl) hK (jD _ zv z false IT)
 |some r=>
  obtain⟨j,mv⟩:=r;obtain⟨i,e',hj,hi,mD,hf⟩:=hf;have hj:j=i:=om;subst hj;have h1:=run _ hf;simp only[Sem.run_pure,Result.andThen_ok]at h1;obtain⟨e1,g1,g2,g3,g4⟩:=eu.2 j _ hi;have:e1=e':=by rw[abD]at mD;rw[mD]at g1;cases g1;rfl
  subst this;cases mv with
  |row n=>
   have hv:df ρ w (.one (.row n esz 0 none)) e1.val:=g4;cases b with
   |false=>exact db.pure hM (v:=e1.val) (by rw[Sem.run_bind,h1];rfl) hK hv
   |true=>exact db.pure hM (v:= .tuple #[e1.val,.bool true]) (by rw[Sem.run_bind,h1];rfl) hK (jD _ _ _ true hv)
  |d5 l=>
   simp only[gC,b7,aY]at hK;obtain⟨U',i4,hX,hd⟩:=hM.Zk c9 hi;have hv:df U' w (.one (.row m.length esz 0 none)) e1.val:=hd _ g4;cases b with
   |false=>exact⟨_,e1.val,w,_,_,U',by rw[Sem.run_bind,h1];rfl,.inl rfl,hK,i4,hv,hX⟩
   |true=>exact⟨_,.tuple #[e1.val,.bool true],w,_,_,U',by rw[Sem.run_bind,h1];rfl,.inl rfl,hK,i4,jD _ _ _ true hv,hX⟩
theorem IU{c:CV}{v:Value}{id esz:Nat}{es:List MO}{so:Option (List Nat×Nat)}(h:SG m c=some (id,esz,es,so))(hd:bZ ρ w c v):m[id]? =some (.mo esz es so)/\v= .map (some (ρ.aH (.aj id)).b):=by
 unfold SG at h;split at h
 .split at h
  .rename_i hb;cases h;rw[aT]at hb;exact⟨hb,hd.2⟩
  .cases h
 .cases h
theorem ER(hM:ax ρ m w)(hE:bj ρ w aX a.tmps){t kt vt:TypeId}{z:RV}{kk:Ky}{x k:Operand}{x' k':X}{b:Bool}(ht:P.underlying t=some (.map kt vt))(hz:Cb P vt=some z)(hk:oz P kt=some kk)(hx:bn x=some x')(LU:bn k=some k')(h:step P (.Ah z kk x' k' b) aX m K):db P (do pure (Next.value (<-Instr.lookup t (a.eval x) (a.eval k) b))) ρ m w K:=by
 have rF:=aQ hE hx;have yv:=aQ hE LU;simp only[step]at h;generalize a.eval x=xv at rF|-;generalize a.eval k=kv at yv|-;generalize k'.ev aX=kc at yv h;split at h
 .rename_i IV;rcases cf.1 h with⟨fl,h⟩|⟨_,h⟩
  case inr=>exact h.elim
  obtain⟨rfl,Ef⟩:=bC yv (λe=>by subst e;cases kk<;>simp[ku]at fl)
  replace fl:=wn fl Ef;split at h
  .rename_i id esz es so hmo;obtain⟨hb,rfl⟩:=IU hmo rF;exact PH hM ht hz hk fl hb h
  obtain⟨es,nV,h⟩:=aV.1 h;obtain⟨o,ho,hK⟩:=aV.1 h;have pA:=mO hk fl;have fU:=oM fl;obtain⟨zv,KU,IT⟩:=tq (ρ:=ρ) (w:=w) hz;have jD:∀(v:Value)(r:RV)(t:Bool),df ρ w r v->(b=true->bZ ρ w (.bz [r,.one (.ah (.val (.bool t)))]) (.tuple #[v,.bool t])):=λv r t hv _=>
   ⟨[v,.bool t],rfl,rfl,λi r' hi=>by
    match i,hi with
    |0,hi=>cases hi;exact⟨v,rfl,hv⟩
    |1,hi=>cases hi;exact⟨_,rfl,.val _ rfl⟩⟩
  have go:∀(r:Option Nat)(br:List MapEntry)(em:Bool),(∀(o':Option (Nat×Value)),Instr.findNow (gp kk) kv br 0=some o'->
    (Instr.lookup t (.map r) kv b).run P w=((match o' with|some (_,v)=>(Pure.pure (v,true):Sem (Value×Bool))|none=>(do pure (<-zeroValue vt,false))).run P w).andThen λp w'=>.ok (if b then .tuple #[p.1,.bool p.2]else p.1) w')->
    (br.length=es.length/\∀(i:Nat)e,es[i]? =some e->∃e',br[i]? =some e'/\e'.key=e.key/\df ρ w e.val e'.val)->db P (do pure (Next.value (<-Instr.lookup t (.map r) kv b))) ρ m w K:=by
   intro r br em cN eu;have hf:=uH (ρ:=ρ) (w:=w) fl es br 0 o eu.1 eu.2 ho;cases o with
   |none=>
    have h1:=cN none hf;simp only[Sem.run_bind,KU,Result.andThen_ok,Sem.run_pure]at h1;cases b with
    |false=>exact db.pure hM (v:=zv) (by rw[Sem.run_bind,h1];rfl) hK IT
    |true=>exact db.pure hM (v:= .tuple #[zv,.bool false]) (by rw[Sem.run_bind,h1];rfl) hK (jD zv z false IT rfl)
   |some r=>
    obtain⟨j,v,hf,hv⟩:=hf;have h1:=cN _ hf;simp only[Sem.run_pure,Result.andThen_ok]at h1;cases b with
    |false=>exact db.pure hM (v:=v) (by rw[Sem.run_bind,h1];rfl) hK hv
    |true=>exact db.pure hM (v:= .tuple #[v,.bool true]) (by rw[Sem.run_bind,h1];rfl) hK (jD v r true hv rfl)
  rcases uJ hM nV rF with⟨rfl,rfl⟩|⟨r,br,clock,rfl,hb,hl,hr⟩
  .refine go none [] true (λo' e8=>?_) ⟨rfl,aC⟩
   cases o' with
   |none=>cases b<;>simp[Instr.lookup,run_underlying ht,run_checkKey pA fU,run_findKey pA e8,Result.andThen,KU]
   |some p=>cases b<;>simp[Instr.lookup,run_underlying ht,run_checkKey pA fU,run_findKey pA e8,Result.andThen]
  .refine go (some r) br.toList br.isEmpty (λo' e8=>?_) ⟨by simpa using hl,λi e he=>by
     obtain⟨e',h1,h2⟩:=hr i e he;exact⟨e',by simpa using h1,h2⟩⟩
   cases o' with
   |none=>cases b<;>simp[Instr.lookup,run_underlying ht,Go.MapKept.run_getObj_map hb,run_checkKey pA fU,run_findKey pA e8,Result.andThen,KU]
   |some p=>cases b<;>simp[Instr.lookup,run_underlying ht,Go.MapKept.run_getObj_map hb,run_checkKey pA fU,run_findKey pA e8,Result.andThen]
 .rename_i cs;obtain⟨IV,VU,hA⟩:=aV.1 h;obtain⟨fl,hB⟩:ku kk IV=true/\_:=(cf.1 hA).elim (λh=>h) λh=>h.2.elim
  clear h hA;have:=wq VU yv;subst this;obtain⟨kd,rfl⟩:=Cs VU fl;obtain⟨es,nV,h⟩:=aV.1 hB;obtain⟨o,ho,hK⟩:=aV.1 h;have PI:∀e,(Instr.checkKey e 10000 kt kv).run P w= .ok () w:=λe=>Cq hk fl e 9998
  have IW:=wo (w:=w) hk kv;obtain⟨zv,KU,IT⟩:=tq (ρ:=ρ) (w:=w) hz;have jD:∀(v:Value)(r:RV)(t:Bool),df ρ w r v->(b=true->bZ ρ w (.bz [r,.one (.ah (.val (.bool t)))]) (.tuple #[v,.bool t])):=λv r t hv _=>
   ⟨[v,.bool t],rfl,rfl,λi r' hi=>by
    match i,hi with
    |0,hi=>cases hi;exact⟨v,rfl,hv⟩
    |1,hi=>cases hi;exact⟨_,rfl,.val _ rfl⟩⟩
  have go:∀(r:Option Nat)(br:List MapEntry)(em:Bool),(∀(o':Option (Nat×Value)),(Instr.findAsking kt kv br 0).run P w= .ok o' w->
    (Instr.lookup t (.map r) kv b).run P w=((match o' with|some (_,v)=>(Pure.pure (v,true):Sem (Value×Bool))|none=>(do pure (<-zeroValue vt,false))).run P w).andThen λp w'=>.ok (if b then .tuple #[p.1,.bool p.2]else p.1) w')->
    (br.length=es.length/\∀(i:Nat)e,es[i]? =some e->∃e',br[i]? =some e'/\e'.key=e.key/\df ρ w e.val e'.val)->db P (do pure (Next.value (<-Instr.lookup t (.map r) kv b))) ρ m w K:=by
   intro r br em cN eu;have hf:=Cr (ρ:=ρ) (w:=w) hk fl es br 0 o eu.1 eu.2 ho;cases o with
   |none=>
    have h1:=cN none hf;simp only[Sem.run_bind,KU,Result.andThen_ok,Sem.run_pure]at h1;cases b with
    |false=>exact db.pure hM (v:=zv) (by rw[Sem.run_bind,h1];rfl) hK IT
    |true=>exact db.pure hM (v:= .tuple #[zv,.bool false]) (by rw[Sem.run_bind,h1];rfl) hK (jD zv z false IT rfl)
   |some r=>
    obtain⟨j,v,hf,hv⟩:=hf;have h1:=cN _ hf;simp only[Sem.run_pure,Result.andThen_ok]at h1;cases b with
    |false=>exact db.pure hM (v:=v) (by rw[Sem.run_bind,h1];rfl) hK hv
    |true=>exact db.pure hM (v:= .tuple #[v,.bool true]) (by rw[Sem.run_bind,h1];rfl) hK (jD v r true hv rfl)
  rcases uJ hM nV rF with⟨rfl,rfl⟩|⟨r,br,clock,rfl,hb,hl,hr⟩
  .refine go none [] true (λo' e8=>?_) ⟨rfl,aC⟩
   cases o' with
   |none=>cases b<;>simp[Instr.lookup,run_underlying ht,PI,IW,e8,Result.andThen,KU]
   |some p=>cases b<;>simp[Instr.lookup,run_underlying ht,PI,IW,e8,Result.andThen]
  .refine go (some r) br.toList br.isEmpty (λo' e8=>?_) ⟨by simpa using hl,λi e he=>by
     obtain⟨e',h1,h2⟩:=hr i e he;exact⟨e',by simpa using h1,h2⟩⟩
   cases o' with
   |none=>cases b<;>simp[Instr.lookup,run_underlying ht,Go.MapKept.run_getObj_map hb,PI,IW,e8,Result.andThen,KU]
   |some p=>cases b<;>simp[Instr.lookup,run_underlying ht,Go.MapKept.run_getObj_map hb,PI,IW,e8,Result.andThen]
 .exact h.elim
theorem Ct{c:CV}{v:Value}{r:RV}(h:B9 c=some r)(hd:bZ ρ w c v):df ρ w r v:=by
 unfold B9 at h;split at h
 .cases h;exact hd
 .cases h
theorem gR.push{es:Array MapEntry}{clock:Nat}(h:gR es clock){k v:Value}:gR (es.push {key:=k,val:=v,born:=clock}) (clock+1):=by
 refine⟨λe he=>?_,?_⟩
 .simp only[Array.toList_push,abL,acn]at he;rcases he with he|rfl
  .exact Nat.lt_succ_of_lt (h.1 e he)
  .exact acf _
 .rw[Array.toList_push,aby,List.nodup_append];refine⟨h.2,aC,λa ha b hb=>?_⟩
  obtain⟨e,he,rfl⟩:=aas.1 ha;simp at hb;subst hb;exact Nat.ne_of_lt (h.1 e he)
theorem gR.Zr{es:Array MapEntry}{clock:Nat}(h:gR es clock){j:Nat}{k v:Value}:gR (es.modify j λe=>{e with key:=k,val:=v}) clock:=by
 have e1:(es.modify j λe=>{e with key:=k,val:=v}).toList.map (·.born)=es.toList.map (·.born):=by
  apply abN;intro i;rw[Sf,Sf,abD,abD,aaV];split
  .cases es[i]? <;>rfl
  .rfl
 refine⟨λe he=>?_,by rw[e1];exact h.2⟩
 have:e.born∈es.toList.map (·.born):=by rw[<-e1];exact aas.2 ⟨e,he,rfl⟩
 obtain⟨x,hx,hb⟩:=aas.1 this;rw[<-hb];exact h.1 x hx
theorem PJ(hM:ax ρ m w){t kt vt:TypeId}{kk:Ky}{kv:Value}(ht:P.underlying t=some (.map kt vt))(hk:oz P kt=some kk)(fl:lX kk kv=true)(Ef:cn kv=true){id esz:Nat}{es:List MO}(c9:m[id]? =some (.mo esz es none)){n lo:Nat}{hi:Option Nat}{vv:Value}(hd:bi ρ w none (.row n esz lo hi) vv){ds:List (List Dt)}(Rz:m[n]? =some (.row esz (ds.map λd=>d.map .ah))){l:List MO}(hl:mE kv (.d5 (bV ds lo hi)) es=some l)(hK:K .undef ((m.set n .aR).set id (.mo esz l none))):
  db P (do Instr.mapUpdate t (.map (some (ρ.aH (.aj id)).b)) kv vv;pure Next.skip) ρ m w K:=by
 have pA:=mO hk fl;have fU:=oM fl;obtain⟨br,clock,⟨hb,pY⟩,eu,lF⟩:=hM.bk id _ c9;have Hh:=Ay eu;have dj:=eu.1;have mP:∀o,eM w {w with heap:=w.heap.setIfInBounds (ρ.aH (.aj id)).b o} (ρ.aH (.aj id)).b:=λo=>
  ⟨λb du=>(heap_set (o':=o) hb).2 b du,aC,rfl,rfl,rfl⟩
 have ib:∀(ou:Array MapEntry)(gh j:Nat),gR ou gh->(Instr.mapUpdate t (.map (some (ρ.aH (.aj id)).b)) kv vv).run P w= .ok () {w with heap:=w.heap.setIfInBounds (ρ.aH (.aj id)).b (.map ou gh)}->
   l[j]? =some ⟨kv,.d5 (bV ds lo hi)⟩->(∀x,x≠j->l[x]? =es[x]?)->ou.size=l.length->(∀x,x≠j->ou[x]? =br[x]?)->(∃e,ou[j]? =some e/\e.key=kv/\e.val=vv)->
   db P (do Instr.mapUpdate t (.map (some (ρ.aH (.aj id)).b)) kv vv;pure Next.skip) ρ m w K:=by
  intro ou gh j LV cN h1 h2 h3 h4 h5;obtain⟨U',i4,hX⟩:=hM.rest c9 Rz h1 Ef h2 hd hb (mP (.map ou gh)) (heap_set hb).1 LV h3 h4 h5;refine⟨.skip,Go.undef,_,.undef,_,U',?_,.inr ⟨rfl,rfl⟩,hK,i4,rfl,hX⟩;rw[Sem.run_bind,cN];rfl
 rcases uK fl (.d5 (bV ds lo hi)) es br.toList 0 l Hh.1 Hh.2 hl with⟨hf,rfl⟩|⟨j,e',hf,hj,Ei,rfl⟩
 .refine ib (br.push {key:=kv,val:=vv,born:=clock}) (clock+1) es.length (gR.push pY) ?_ aC (λx hx=>?_) (by simp[dj]) (λx hx=>?_) ⟨{key:=kv,val:=vv,born:=clock},by rw[acq,if_pos dj.symm],rfl,rfl⟩
  .simp[Instr.mapUpdate,run_underlying ht,Go.MapKept.run_getObj_map hb,run_checkKey pA fU,run_findKey pA hf,run_setObj_map _ hb,Result.andThen]
  .rw[List.getElem?_append];split
   .rfl
   .rename_i h;rw[aaz (by simp;omega),aaz om]
  .rw[acq,if_neg om]
 .have og:br[j]? =some e':=by simpa using hj
  have d9:=(aaw.1 og).1;refine ib (br.modify j λe=>{e with key:=kv,val:=vv}) clock j (gR.Zr pY) ?_ (SC om) (λx hx=>Xg (Ne.symm hx)) (by simp[dj]) (λx hx=>by rw[aaV,if_neg (Ne.symm hx)]) ⟨{e' with key:=kv,val:=vv},by rw[aaV,if_pos rfl,og];rfl,rfl,rfl⟩
  .rw[aaM]at hf;simp[Instr.mapUpdate,run_underlying ht,Go.MapKept.run_getObj_map hb,run_checkKey pA fU,run_findKey pA hf,run_setObj_map _ hb,Result.andThen,og,Ei,run_keyThatStays fU]
theorem wu(hM:ax ρ m w)(hE:bj ρ w aX a.tmps){t kt vt:TypeId}{kk:Ky}{x k v:Operand}{x' k' v':X}(ht:P.underlying t=some (.map kt vt))(hk:oz P kt=some kk)(hx:bn x=some x')(LU:bn k=some k')(hvx:bn v=some v')(h:step P (.vI kk x' k' v') aX m K):db P (do Instr.mapUpdate t (a.eval x) (a.eval k) (a.eval v);pure Next.skip) ρ m w K:=by
 have rF:=aQ hE hx;have yv:=aQ hE LU;have pL:=aQ hE hvx;simp only[step]at h;generalize a.eval x=xv at rF|-;generalize a.eval k=kv at yv|-;generalize a.eval v=vv at pL|-;generalize x'.ev aX=xc at rF h;split at h
 .rename_i id;generalize k'.ev aX=kc at yv h;split at h
  .rename_i IV;rcases cf.1 h with⟨fl,h⟩|⟨_,h⟩
   case inr=>exact h.elim
   obtain⟨rfl,Ef⟩:=bC yv (λe=>by subst e;cases kk<;>simp[ku]at fl)
   replace fl:=wn fl Ef;obtain⟨bk,c9,h⟩:=aV.1 h;rw[aT]at c9;split at h
   case h_3=>exact h.elim
   case h_2=>
    rename_i esz es;obtain⟨aD,rfl⟩:=rF;generalize v'.ev aX=vc at pL h;split at h
    .rename_i n e1 lo hi;obtain⟨b2,fx,h⟩:=aV.1 h;rw[aT]at fx;split at h
     .rename_i e2 rows;rcases cf.1 h with⟨nV,h⟩|⟨_,h⟩
      case inr=>exact h.elim
      obtain⟨ds,l,rfl,hl,hK⟩:=h;rw[aac]at nV;have h1:=aam nV.1;have h2:=aam nV.2;subst h1 h2;rw[aY,aY]at hK;exact PJ hM ht hk fl Ef c9 pL fx hl hK
     .exact h.elim
    .exact h.elim
   rename_i es;obtain⟨r,hr,h⟩:=aV.1 h;obtain⟨l,hl,hK⟩:=aV.1 h;rw[aY]at hK;have pA:=mO hk fl;have fU:=oM fl;have PK:=Ct hr pL;obtain⟨aD,rfl⟩:=rF;obtain⟨br,clock,⟨hb,pY⟩,dj,eu⟩:=hM.bk id _ c9;have mP:∀o,eM w {w with heap:=w.heap.setIfInBounds (ρ.aH (.aj id)).b o} (ρ.aH (.aj id)).b:=λo=>
    ⟨λb du=>(heap_set (o':=o) hb).2 b du,aC,rfl,rfl,rfl⟩
   have bX:Live ρ m (.aj id):=⟨_,c9,aC,by rintro⟨_,_,e⟩;cases e⟩
   have ib:∀(ou:Array MapEntry)(gh:Nat),gR ou gh->(Instr.mapUpdate t (.map (some (ρ.aH (.aj id)).b)) kv vv).run P w= .ok () {w with heap:=w.heap.setIfInBounds (ρ.aH (.aj id)).b (.map ou gh)}->
     (iA ρ w ρ {w with heap:=w.heap.setIfInBounds (ρ.aH (.aj id)).b (.map ou gh)}->Ag ρ {w with heap:=w.heap.setIfInBounds (ρ.aH (.aj id)).b (.map ou gh)} l ou)->db P (do Instr.mapUpdate t (.map (some (ρ.aH (.aj id)).b)) kv vv;pure Next.skip) ρ m w K:=by
    intro ou gh LV cN Zs;obtain⟨i4,hX⟩:=hM.KT (yS:= .mp l) c9 bX (mP _) (λg=>⟨ou,gh,⟨(heap_set hb).1,LV⟩,Zs g⟩) (by
     rintro i' j' esz e ⟨b2,fx,gQ⟩;rw[SC (by rw[<-hM.n];exact aD)]at fx
     cases fx;cases gQ)
    refine⟨.skip,Go.undef,_,.undef,_,ρ,?_,.inr ⟨rfl,rfl⟩,hK,i4,rfl,hX⟩;rw[Sem.run_bind,cN];rfl
   rcases wt (ρ:=ρ) (w:=w) fl r es br.toList 0 l (by simpa using dj) (λi e he=>by
     obtain⟨e',h1,h2⟩:=eu i e he;exact⟨e',by simpa using h1,h2⟩) hl with⟨hf,rfl⟩|⟨j,e',hf,hj,Ei,rfl⟩
   .refine ib (br.push {key:=kv,val:=vv,born:=clock}) (clock+1) (gR.push pY) ?_ λg=>⟨by simp[dj],λi e he=>?_⟩
    .simp[Instr.mapUpdate,run_underlying ht,Go.MapKept.run_getObj_map hb,run_checkKey pA fU,run_findKey pA hf,run_setObj_map _ hb,Result.andThen]
    .rcases aaf i es.length with h1|h1
     .rw[YN h1]at he;obtain⟨e',h2,h3,h4⟩:=eu i e he;exact⟨e',by rw[acq,if_neg om];exact h2,h3,h4.ce g⟩
     .have hi:=(JJ.1 he).1;simp at hi;have lT:i=es.length:=om;subst lT;simp at he;subst he;exact⟨_,by rw[acq,if_pos dj.symm],rfl,PK.ce g⟩
   .have og:br[j]? =some e':=by simpa using hj
    have d9:=(aaw.1 og).1;refine ib (br.modify j λe=>{e with key:=kv,val:=vv}) clock (gR.Zr pY) ?_ λg=>⟨by simp[dj],λi e he=>?_⟩
    .rw[aaM]at hf;simp[Instr.mapUpdate,run_underlying ht,Go.MapKept.run_getObj_map hb,run_checkKey pA fU,run_findKey pA hf,run_setObj_map _ hb,Result.andThen,og,Ei,run_keyThatStays fU]
    .rw[aaS]at he;by_cases pN:j=i
     .subst pN;rw[if_pos rfl,if_pos om]at he;cases he;exact⟨{e' with key:=kv,val:=vv},by rw[aaV,if_pos rfl,og];rfl,rfl,PK.ce g⟩
     .rw[if_neg pN]at he;obtain⟨e2,h2,h3,h4⟩:=eu i e he;exact⟨e2,by rw[aaV,if_neg pN];exact h2,h3,h4.ce g⟩
  .rename_i cs;obtain⟨IV,VU,hA⟩:=aV.1 h;obtain⟨fl,hB⟩:ku kk IV=true/\_:=(cf.1 hA).elim (λh=>h) λh=>h.2.elim
   clear h hA;have:=wq VU yv;subst this;obtain⟨kd,rfl⟩:=Cs VU fl;have PI:∀e,(Instr.checkKey e 10000 kt kv).run P w= .ok () w:=λe=>Cq hk fl e 9998
   have IW:=wo (w:=w) hk kv;obtain⟨bk,c9,h⟩:=aV.1 hB;rw[aT]at c9;split at h
   case h_2=>exact h.elim
   rename_i es;obtain⟨r,hr,h⟩:=aV.1 h;obtain⟨l,hl,hK⟩:=aV.1 h;rw[aY]at hK;have PK:=Ct hr pL;obtain⟨aD,rfl⟩:=rF;obtain⟨br,clock,⟨hb,pY⟩,dj,eu⟩:=hM.bk id _ c9;have mP:∀o,eM w {w with heap:=w.heap.setIfInBounds (ρ.aH (.aj id)).b o} (ρ.aH (.aj id)).b:=λo=>
    ⟨λb du=>(heap_set (o':=o) hb).2 b du,aC,rfl,rfl,rfl⟩
   have bX:Live ρ m (.aj id):=⟨_,c9,aC,by rintro⟨_,_,e⟩;cases e⟩
   have ib:∀(ou:Array MapEntry)(gh:Nat),gR ou gh->(Instr.mapUpdate t (.map (some (ρ.aH (.aj id)).b)) kv vv).run P w= .ok () {w with heap:=w.heap.setIfInBounds (ρ.aH (.aj id)).b (.map ou gh)}->
     (iA ρ w ρ {w with heap:=w.heap.setIfInBounds (ρ.aH (.aj id)).b (.map ou gh)}->Ag ρ {w with heap:=w.heap.setIfInBounds (ρ.aH (.aj id)).b (.map ou gh)} l ou)->db P (do Instr.mapUpdate t (.map (some (ρ.aH (.aj id)).b)) kv vv;pure Next.skip) ρ m w K:=by
    intro ou gh LV cN Zs;obtain⟨i4,hX⟩:=hM.KT (yS:= .mp l) c9 bX (mP _) (λg=>⟨ou,gh,⟨(heap_set hb).1,LV⟩,Zs g⟩) (by
     rintro i' j' esz e ⟨b2,fx,gQ⟩;rw[SC (by rw[<-hM.n];exact aD)]at fx
     cases fx;cases gQ)
    refine⟨.skip,Go.undef,_,.undef,_,ρ,?_,.inr ⟨rfl,rfl⟩,hK,i4,rfl,hX⟩;rw[Sem.run_bind,cN];rfl
   rcases Hg (ρ:=ρ) (w:=w) hk fl r es br.toList 0 l (by simpa using dj) (λi e he=>by
     obtain⟨e',h1,h2⟩:=eu i e he;exact⟨e',by simpa using h1,h2⟩) hl with⟨hf,rfl⟩|⟨j,e',hf,hj,Ei,rfl⟩
   .refine ib (br.push {key:=kv,val:=vv,born:=clock}) (clock+1) (gR.push pY) ?_ λg=>⟨by simp[dj],λi e he=>?_⟩
    .simp[Instr.mapUpdate,run_underlying ht,Go.MapKept.run_getObj_map hb,PI,IW,hf,run_setObj_map _ hb,Result.andThen]
    .rcases aaf i es.length with h1|h1
     .rw[YN h1]at he;obtain⟨e',h2,h3,h4⟩:=eu i e he;exact⟨e',by rw[acq,if_neg om];exact h2,h3,h4.ce g⟩
     .have hi:=(JJ.1 he).1;simp at hi;have lT:i=es.length:=om;subst lT;simp at he;subst he;exact⟨_,by rw[acq,if_pos dj.symm],rfl,PK.ce g⟩
   .have og:br[j]? =some e':=by simpa using hj
    have d9:=(aaw.1 og).1;refine ib (br.modify j λe=>{e with key:=kv,val:=vv}) clock (gR.Zr pY) ?_ λg=>⟨by simp[dj],λi e he=>?_⟩
    .rw[aaM]at hf;simp[Instr.mapUpdate,run_underlying ht,Go.MapKept.run_getObj_map hb,PI,IW,hf,run_setObj_map _ hb,Result.andThen,og,Ei,LS fl]
    .rw[aaS]at he;by_cases pN:j=i
     .subst pN;rw[if_pos rfl,if_pos om]at he;cases he;exact⟨{e' with key:=kv,val:=vv},by rw[aaV,if_pos rfl,og];rfl,rfl,PK.ce g⟩
     .rw[if_neg pN]at he;obtain⟨e2,h2,h3,h4⟩:=eu i e he;exact⟨e2,by rw[aaV,if_neg pN];exact h2,h3,h4.ce g⟩
  .exact h.elim
 .exact h.elim
theorem ax.still(hM:ax ρ m w){id:Nat}{es:List ME}(hb:m[id]? =some (.mp es)):ax {ρ with S:=λb=>ρ.S b\/b=(ρ.aH (.aj id)).b} (m.set id .aR) w/\Ext ρ m w {ρ with S:=λb=>ρ.S b\/b=(ρ.aH (.aj id)).b} (m.set id .aR) w:=by
 have aD:id<m.length:=(JJ.1 hb).1;have bX:Live ρ m (.aj id):=⟨_,hb,aC,by rintro⟨_,_,e⟩;cases e⟩
 have g:iA ρ w {ρ with S:=λb=>ρ.S b\/b=(ρ.aH (.aj id)).b} w:=⟨T5 _,λ_ _=>rfl,λ_ h=>.inl h,λb hb=>rfl⟩
 have get:∀{k:Nat}{b:Bk},(m.set id .aR)[k]? =some b->(k≠id/\m[k]? =some b)\/(k=id/\b= .aR):=by
  intro k b hb;by_cases hk:k=id
  .subst hk;rw[SC aD]at hb;exact .inr ⟨rfl,by simpa using hb.symm⟩
  .rw[Xg (Ne.symm hk)]at hb;exact .inl ⟨hk,hb⟩
 have d8:∀{k i j esz e},dP (m.set id .aR) k i j esz e->dP m k i j esz e:=by
  intro k i j esz e ho;obtain⟨b2,hb,ho⟩:=ho;rcases get hb with⟨_,hb⟩|⟨_,hb⟩
  .exact⟨b2,hb,ho⟩
  .subst hb;cases ho
 have dn:∀k,Live {ρ with S:=λb=>ρ.S b\/b=(ρ.aH (.aj id)).b} (m.set id .aR) k->Live ρ m k/\k≠.aj id:=by
  intro k hk;cases k with
  |aj k=>
   obtain⟨b,hb,hn,bc⟩:=hk;rcases get hb with⟨du,hb⟩|⟨_,rfl⟩
   .exact⟨⟨b,hb,hn,bc⟩,λe=>by cases e;exact du rfl⟩
   .exact absurd rfl hn
  |sub k i j=>
   obtain⟨⟨esz,e,ho⟩,bc⟩:=hk;exact⟨⟨⟨esz,e,d8 ho⟩,bc⟩,λe=>by cases e⟩
 refine⟨⟨by simp[hM.n],?_,?_,λk k' hk fS=>hM.inj k k' (dn k hk).1 (dn k' fS).1,?_,?_⟩,
  ⟨T5 _,λ_ _=>rfl,λ_ h=>.inl h,?_,λk hk=>.inr ⟨k,(dn k hk).1,rfl⟩,λ_ _ _=>rfl,T5 _,rfl,rfl,rfl⟩⟩
 .rintro b (h|rfl)
  .exact hM.S b h
  .exact(hM.aP _ bX).1
 .intro k hk;obtain⟨h1,h2⟩:=dn k hk;refine⟨(hM.aP k h1).1,?_⟩;rintro(h|h)
  .exact(hM.aP k h1).2 h
  .exact h2 (hM.inj k _ h1 bX h)
 .intro k b hb;rcases get hb with⟨_,hb⟩|⟨_,rfl⟩
  .exact(hM.bk k b hb).ce g (hM.eK hb) λ_ _=>rfl
  .trivial
 .intro k i j esz e ho bc;exact(hM.d5 k i j esz e (d8 ho) bc).ce g rfl
 .rintro b (h|rfl)
  .exact .inl h
  .exact .inr (.inr ⟨_,bX,rfl⟩)
theorem rG:∀{es:List ME}{l:List (Value×Value)},ru es=some l->∀(br:List MapEntry),br.length=es.length->(∀(i:Nat)e,es[i]? =some e->∃e',br[i]? =some e'/\e'.key=e.key/\df ρ w e.val e'.val)->
  br.map (λe=>(e.key,e.val))=l/\∀p,p∈l->cn p.1=true/\cn p.2=true
 | [],l,h,br,hl,hr=>by
  simp[ru]at h;subst h;have:br=[]:=acX.1 (by simpa using hl)
  subst this;simp
 |e::r,l,h,[],hl,hr=>by simp at hl
 |e::r,l,h,e'::r',hl,hr=>by
  obtain⟨k,v⟩:=e;unfold ru at h;split at h
  .rename_i heq;cases heq
  .rename_i k1 v1 r1 heq;cases heq;split at h
   .rename_i hp;rw[aac]at hp;obtain⟨l1,yW,rfl⟩:=aau.1 h;obtain⟨a1,a2⟩:=rG yW r' (by simpa using hl) (λi e he=>by simpa using hr (i+1) e (by simpa using he))
    obtain⟨e0,h0,h1,h2⟩:=hr 0 _ rfl;simp only[ack,aat]at h0;subst h0;have h3:e'.val=v1:=(bC (ρ:=ρ) (w:=w) h2 (λe=>by subst e;simp[cn]at hp)).1
    refine⟨by rw[aaJ,a1,h1,h3],λp KV=>?_⟩
    rcases aaB.1 KV with rfl|KV
    .exact hp
    .exact a2 p KV
   .cases h
  .cases h
theorem S5(hM:ax ρ m w){t kt vt:TypeId}(ht:P.underlying t=some (.map kt vt)){id esz:Nat}{es:List MO}(c9:m[id]? =some (.mo esz es none))(h:∀(st:List Nat)(gZ:Nat),st.length=es.length->st.Nodup->(∀s,s∈st->s<gZ)->ny m λn=>K (.rv (.one (.ptr n 0))) (gn (aW m id (.mo esz es (some (st,gZ)))) [.iw id gZ []])):
  db P (do pure (Next.value (<-Instr.range t (.map (some (ρ.aH (.aj id)).b))))) ρ m w K:=by
 obtain⟨br,clock,⟨hb,pY⟩,eu,lF⟩:=hM.bk id _ c9;have pM:id<m.length:=(JJ.1 c9).1;have h:=h (br.toList.map (·.born)) clock (by simpa using eu.1) pY.2 (λs hs=>by obtain⟨e,he,rfl⟩:=aas.1 hs;exact pY.1 e he)
 rw[gC,b7,aY]at h;have bX:Live ρ m (.aj id):=⟨_,c9,aC,by rintro⟨_,_,e⟩;cases e⟩
 obtain⟨rH,mh⟩:=hM.KT (yS:= .mo esz es (some (br.toList.map (·.born),clock))) c9 bX (eM.refl w _) (λg=>⟨br,clock,⟨hb,pY⟩,eu,λst gZ e=>by cases e;exact⟨rfl,rfl⟩⟩) (by rintro i' j' rx e ⟨b2,fx,gQ⟩;rw[SC pM]at fx;cases fx;obtain⟨k,hi,rfl,rfl⟩:=gQ.Rm;exact⟨_,c9,.mo hi⟩)
 let lo:vH:=⟨w.heap.size,0,0,0⟩;have hn:=rH.n;have bM:(ρ.push lo).aH (.aj (m.set id (.mo esz es (some (br.toList.map (·.born),clock)))).length)=lo:=by rw[<-hn];exact bG.fT _ lo
 obtain⟨h1,h2⟩:=rH.push (bk:= .iw id clock []) (l:=lo) (eG.alloc w (.mapIter (some (ρ.aH (.aj id)).b) clock #[] clock)) (T5 _) (by simp[lo]) (by
  refine⟨by show id<ρ.n+1;rw[hM.n];omega,by rw[bM],#[],?_,rfl⟩
  rw[bM,ρ.eL lo (k:= .aj id) (by show id<ρ.n;rw[hM.n];exact pM)]
  exact(heap_alloc w _).1) trivial
 refine⟨_,.pointer (some ⟨w.heap.size,0,none⟩),w.alloc (.mapIter (some (ρ.aH (.aj id)).b) clock #[] clock),_,_,_,?_,.inl rfl,h,h1,?_,mh.trans h2⟩
 .rw[Sem.run_bind,run_range_map w t kt vt (ρ.aH (.aj id)).b br clock ht hb];rfl
 .have bM:(ρ.push lo).aH (.aj m.length)=lo:=by rw[<-hM.n];exact bG.fT ρ lo
  refine⟨by show m.length<ρ.n+1;rw[hM.n];omega,?_⟩
  rw[bM]
theorem S6(hM:ax ρ m w){ty:TypeId}{id mid gZ:Nat}{seen:List Nat}(c9:m[id]? =some (.iw mid gZ seen)){esz:Nat}{es:List MO}{st:List Nat}{c2:Nat}(S7:m[mid]? =some (.mo esz es (some (st,c2))))(hc:c2=gZ)(LW:(∀s,s∈st->s∈seen)->K (.bz [.one (.ah (.val (.bool false)))]) (aW m mid (.mo esz es none)))(nX:∀(i:Nat)(x:MO)(s:Nat),es[i]? =some x->st[i]? =some s->¬s∈seen->K (.bz [.one (.ah (.val (.bool true))),.one (.ah (.val x.key)),.one .aF]) (aW m id (.iw mid gZ (s::seen)))):
  db P (do pure (Next.value (<-Instr.next (.pointer (some ⟨(ρ.aH (.aj id)).b,0,none⟩)) false ty))) ρ m w K:=by
 subst hc;obtain⟨VV,h2,s,h3,EP⟩:=hM.bk id _ c9;obtain⟨br,clock,⟨hb,pY⟩,eu,lF⟩:=hM.bk mid _ S7;obtain⟨im,LX⟩:=lF _ _ rfl;clear lF;have lF:=LX;subst im;have pM:id<m.length:=(JJ.1 c9).1;have VW:mid<m.length:=(JJ.1 S7).1;have bX:Live ρ m (.aj id):=⟨_,c9,aC,by rintro⟨_,_,e⟩;cases e⟩
 have S8:Live ρ m (.aj mid):=⟨_,S7,aC,by rintro⟨_,_,e⟩;cases e⟩
 have ic:∀x,x∈seen↔x∈s.toList:=λx=>by rw[<-EP];simp
 rcases run_next_at (P:=P) w ty (ρ.aH (.aj id)).b (ρ.aH (.aj mid)).b clock clock s br clock h3 hb pY.1 (T5 _)with⟨h0,cN⟩|⟨e,he,w1,S9,cN⟩
 .have hK:=LW λx hx=>by
   rw[ic];rw[<-lF]at hx;obtain⟨e,he,rfl⟩:=aas.1 hx;have US:(leftOf br s).toList=[]:=acX.1 (by simpa using h0)
   have US:(br.filter λe=>!s.contains e.born).toList=[]:=US
   rw[Array.toList_filter,List.filter_eq_nil_iff]at US;have:=US e he;simpa using this
  rw[aY]at hK;obtain⟨rH,mh⟩:=hM.KT (yS:= .mo esz es none) S7 S8 (eM.refl w _) (λg=>⟨br,clock,⟨hb,pY⟩,eu,aC⟩) (by rintro i' j' rx e ⟨b2,fx,gQ⟩;rw[SC VW]at fx;cases fx;obtain⟨k,hi,rfl,rfl⟩:=gQ.Rm;exact⟨_,S7,.mo hi⟩)
  refine⟨_,.tuple #[.bool false],w,_,_,ρ,by rw[Sem.run_bind,cN];rfl,.inl rfl,hK,rH,⟨[.bool false],rfl,rfl,λi r hi=>?_⟩,mh⟩
  match i,hi with
  |0,hi=>cases hi;exact⟨_,rfl,.val _ rfl⟩
 .have he:e∈(br.filter λe=>!s.contains e.born).toList:=he
  rw[Array.toList_filter,acm]at he;obtain⟨hem,Zt⟩:=he;obtain⟨i,hi⟩:=X1 hem;have ym:i<es.length:=by have:=(JJ.1 hi).1;rw[<-eu.1];simpa using this
  obtain⟨x,hx⟩:∃x,es[i]? =some x:=⟨_,vl ym⟩;obtain⟨e1,g1,g2,g3,g4⟩:=eu.2 i x hx;have:e1=e:=by rw[<-abD,hi]at g1;cases g1;rfl
  subst this;have hK:=nX i x e1.born hx (by rw[<-lF,Sf,hi];rfl) (by rw[ic];simpa using Zt)
  rw[aY]at hK;have hh:w1.heap=w.heap/\w1.os=w.os/\w1.tape=w.tape/\w1.output=w.output:=by rcases S9 with rfl|rfl<;>exact⟨rfl,rfl,rfl,rfl⟩
  have PL:(ρ.aH (.aj id)).b<w.heap.size:=(hM.aP _ bX).1;have mP:eM w (Go.ChangeMaps.setBlock w1 (ρ.aH (.aj id)).b (.mapIter (some (ρ.aH (.aj mid)).b) clock (s.push e1.born) clock)) (ρ.aH (.aj id)).b:=
   ⟨λb du=>by show(w1.heap.setIfInBounds _ _)[b]? =_;rw[hh.1,aco (Ne.symm du)],by show(w1.heap.setIfInBounds _ _).size=_;rw[Array.size_setIfInBounds,hh.1],hh.2.1,hh.2.2.1,hh.2.2.2⟩
  obtain⟨i4,hX⟩:=hM.KT (yS:= .iw mid clock (e1.born::seen)) c9 bX mP (λg=>⟨VV,h2,s.push e1.born,by
    show(w1.heap.setIfInBounds _ _)[_]? =_;rw[hh.1,acd PL],by simp[EP]⟩) (by
   rintro i' j' rx e ⟨b2,fx,gQ⟩;rw[SC pM]at fx;cases fx;cases gQ)
  have LY:=(g4.one:e1.val.oneCell'=true);refine⟨_,.tuple #[.bool true,e1.key,e1.val],_,_,_,ρ,by rw[Sem.run_bind,cN];rfl,.inl rfl,hK,i4,⟨[.bool true,e1.key,e1.val],rfl,rfl,λi r hi=>?_⟩,hX⟩
  match i,hi with
  |0,hi=>cases hi;exact⟨_,rfl,.val _ rfl⟩
  |1,hi=>cases hi;exact⟨_,rfl,by rw[g2];exact .val _ g3⟩
  |2,hi=>cases hi;exact⟨_,rfl,LY⟩
theorem Ta(hM:ax ρ m w){id mid gZ:Nat}{s:Nat}{seen:List Nat}(c9:m[id]? =some (.iw mid gZ (s::seen))){esz:Nat}{es:List MO}{st:List Nat}{c2:Nat}(S7:m[mid]? =some (.mo esz es (some (st,c2))))(hc:c2=gZ){i:Nat}{x:MO}(hx:es[i]? =some x)(hs:st[i]? =some s)(hK:K (.bz [.one (.ah (.val x.key)),.one .aF]) m):
  db P (do pure (Next.value (<-Instr.entry (.pointer (some ⟨(ρ.aH (.aj id)).b,0,none⟩))))) ρ m w K:=by
 subst hc;obtain⟨VV,h2,s0,h3,EP⟩:=hM.bk id _ c9;obtain⟨br,clock,⟨hb,pY⟩,eu,lF⟩:=hM.bk mid _ S7;obtain⟨im,LX⟩:=lF _ _ rfl;clear lF;have lF:=LX;subst im;obtain⟨e,g1,g2,g3,g4⟩:=eu.2 i x hx;have nV:e.born=s:=by rw[<-lF,Sf,abD,g1]at hs;simpa using hs
 have hs0:s0=(Array.mk seen.reverse).push e.born:=by apply Array.toList_inj.1;have:=congrArg List.reverse EP;simp at this;simp[this,nV]
 have cN:=run_entry_at (P:=P) w (ρ.aH (.aj id)).b (ρ.aH (.aj mid)).b clock (Array.mk seen.reverse) br clock e (by rw[<-hs0];exact h3) hb (by rw[<-abD]at g1;exact Sj g1) pY.2
 have LY:=(g4.one:e.val.oneCell'=true);refine db.pure hM (v:= .tuple #[e.key,e.val]) (by rw[Sem.run_bind,cN];rfl) hK ⟨[e.key,e.val],rfl,rfl,λi r hi=>?_⟩
 match i,hi with
 |0,hi=>cases hi;exact⟨_,rfl,by rw[g2];exact .val _ g3⟩
 |1,hi=>cases hi;exact⟨_,rfl,LY⟩
theorem ES(hM:ax ρ m w)(hE:bj ρ w aX a.tmps){t kt vt t2:TypeId}{ats:Array TypeId}{kk:Ky}{x k:Operand}{x' k':X}(VX:ats[0]? =some t)(ht:P.underlying t=some (.map kt vt))(hk:oz P kt=some kk)(hx:bn x=some x')(LU:bn k=some k')(h:step P (.Lj kk x' k') aX m K):db P (do pure (Next.value (<-Builtin.delete_ ats t2 #[a.eval x,a.eval k]))) ρ m w K:=by
 have rF:=aQ hE hx;have yv:=aQ hE LU;simp only[step]at h;generalize a.eval x=xv at rF|-;generalize a.eval k=kv at yv|-;generalize x'.ev aX=xc at rF h;split at h
 .rename_i id;generalize k'.ev aX=kc at yv h;split at h
  .rename_i IV;rcases cf.1 h with⟨fl,h⟩|⟨_,h⟩
   case inr=>exact h.elim
   obtain⟨rfl,Ef⟩:=bC yv (λe=>by subst e;cases kk<;>simp[ku]at fl)
   replace fl:=wn fl Ef;obtain⟨bk,c9,h⟩:=aV.1 h;rw[aT]at c9;split at h
   .rename_i esz es st gZ;obtain⟨o,ho,h⟩:=aV.1 h;have pA:=mO hk fl;have fU:=oM fl;obtain⟨aD,rfl⟩:=rF;obtain⟨br,clock,⟨hb,pY⟩,eu,lF⟩:=hM.bk id _ c9;obtain⟨im,LX⟩:=lF _ _ rfl;clear lF;have lF:=LX;subst im;have Hh:=Ay eu;have hf:=nF fl es br.toList 0 o Hh.1 Hh.2 ho;have bX:Live ρ m (.aj id):=⟨_,c9,aC,by rintro⟨_,_,e⟩;cases e⟩
    have mP:∀o,eM w {w with heap:=w.heap.setIfInBounds (ρ.aH (.aj id)).b o} (ρ.aH (.aj id)).b:=λo=>
     ⟨λb du=>(heap_set (o':=o) hb).2 b du,aC,rfl,rfl,rfl⟩
    have pM:id<m.length:=(JJ.1 c9).1;cases o with
    |none=>
     have jo:m.set id (.mo esz es (some (st,clock)))=m:=by
      apply abN;intro i;by_cases hh:id=i
      .subst hh;rw[SC pM,c9]
      .rw[Xg hh]
     have cN:(Builtin.delete_ ats t2 #[.map (some (ρ.aH (.aj id)).b),kv]).run P w= .ok (.tuple #[]) {w with heap:=w.heap.setIfInBounds (ρ.aH (.aj id)).b (.map br clock)}:=by simp[Builtin.delete_,VX,run_underlying ht,Go.MapKept.run_getObj_map hb,run_checkKey pA fU,run_findKey pA hf,run_setObj_map _ hb,Result.andThen]
     obtain⟨i4,hX⟩:=hM.KT (yS:= .mo esz es (some (st,clock))) c9 bX (mP (.map br clock)) (λg=>by
      refine⟨br,clock,⟨(heap_set hb).1,pY⟩,⟨eu.1,λi e hi=>?_⟩,λst gZ e=>by cases e;exact⟨rfl,lF⟩⟩
      obtain⟨e',q1,q2,q3,q4⟩:=eu.2 i e hi;exact⟨e',q1,q2,q3,q4.ce g (λa b c e=>by cases e;exact aD)⟩) (by
      rintro i' j' rx e ⟨b2,fx,gQ⟩;rw[jo]at fx;exact⟨b2,fx,gQ⟩)
     rw[jo]at i4 hX;exact⟨_,.tuple #[],_,_,_,ρ,by rw[Sem.run_bind,cN];rfl,.inl rfl,h,i4,⟨[],rfl,rfl,aC⟩,hX⟩
    |some r=>
     obtain⟨j,mv⟩:=r;obtain⟨i,e',hj,hi,mD,hf⟩:=hf;have hj:j=i:=om;subst hj;have ym:=(JJ.1 hi).1;have Zu:j<br.size:=by rw[eu.1];exact ym
     rw[aaM]at hf;have cN:(Builtin.delete_ ats t2 #[.map (some (ρ.aH (.aj id)).b),kv]).run P w= .ok (.tuple #[]) {w with heap:=w.heap.setIfInBounds (ρ.aH (.aj id)).b (.map (br.eraseIdxIfInBounds j) clock)}:=by simp[Builtin.delete_,VX,run_underlying ht,Go.MapKept.run_getObj_map hb,run_checkKey pA fU,run_findKey pA hf,run_setObj_map _ hb,Result.andThen]
     have Hi:(br.eraseIdxIfInBounds j).toList=br.toList.eraseIdx j:=by simp[Array.eraseIdxIfInBounds,Zu]
     have hbo:(br.eraseIdxIfInBounds j).toList.map (·.born)=(br.toList.map (·.born)).eraseIdx j:=by rw[Hi];exact Go.ChangeMaps.map_eraseIdx _ _ _
     simp only[aY]at h;obtain⟨U',i4,hX⟩:=hM.Zo (RB:=some (st.eraseIdx j,clock)) c9 ym hb (mP (.map (br.eraseIdxIfInBounds j) clock)) (heap_set hb).1
      ⟨λe he=>pY.1 e (by rw[Hi]at he;exact List.mem_of_mem_eraseIdx he),by rw[hbo];exact pY.2.eraseIdx j⟩ Hi (λst gZ e=>by cases e;exact⟨rfl,by rw[hbo,lF]⟩)
     exact⟨_,.tuple #[],_,_,_,U',by rw[Sem.run_bind,cN];rfl,.inl rfl,h,i4,⟨[],rfl,rfl,aC⟩,hX⟩
   .exact h.elim
  .exact h.elim
 .exact h.elim
theorem IX(hM:ax ρ m w)(hE:bj ρ w aX a.tmps){t kt vt:TypeId}{x:Operand}{x':X}(ht:P.underlying t=some (.map kt vt))(hx:bn x=some x')(h:step P (.Vk x') aX m K):db P (do pure (Next.value (<-Instr.range t (a.eval x)))) ρ m w K:=by
 have rF:=aQ hE hx;simp only[step]at h;generalize a.eval x=xv at rF|-;split at h
 .rename_i id heq;rw[heq]at rF;obtain⟨bk,c9,h⟩:=aV.1 h;rw[aT]at c9;split at h
  case h_3=>exact h.elim
  case h_2=>
   rename_i esz es;obtain⟨aD,rfl⟩:=rF;exact S5 hM ht c9 h
  rename_i es;obtain⟨l,hl,h⟩:=aV.1 h;rw[gC,b7,aY]at h;obtain⟨aD,rfl⟩:=rF;obtain⟨br,clock,⟨hb,pY⟩,dj,eu⟩:=hM.bk id _ c9;obtain⟨rH,mh⟩:=hM.still c9;have Hj:=rG (ρ:=ρ) (w:=w) hl br.toList (by simpa using dj) (λi e he=>by
   obtain⟨e',h1,h2⟩:=eu i e he;exact⟨e',by simpa using h1,h2⟩)
  let lo:vH:=⟨w.heap.size,0,0,0⟩;have hn:=rH.n;have hmb:=rH.S _ (.inr rfl);obtain⟨h1,h2⟩:=rH.push (bk:= .it [] l) (l:=lo) (eG.alloc w (.mapIter (some (ρ.aH (.aj id)).b) clock #[] clock)) (T5 _) (by simp[lo]) (by
   have bM:(bG.push {ρ with S:=λb=>ρ.S b\/b=(ρ.aH (.aj id)).b} lo).aH (.aj (m.set id .aR).length)=lo:=by rw[<-hn];exact bG.fT _ lo
   refine⟨(ρ.aH (.aj id)).b,#[],clock,br,?_,?_,.inr rfl,?_,pY,?_,aC,λp hp=>Hj.2 p (by simpa using hp)⟩
   .rw[bM];exact(heap_alloc w _).1
   .rw[bM]
   .exact((heap_alloc w _).2 _ hmb).trans hb
   .rw[<-Hj.1];congr 2;exact Array.filter_eq_self.2 aC) trivial
  refine⟨_,.pointer (some ⟨w.heap.size,0,none⟩),w.alloc (.mapIter (some (ρ.aH (.aj id)).b) clock #[] clock),_,_,_,?_,.inl rfl,h,h1,?_,mh.trans h2⟩
  .rw[Sem.run_bind,run_range_map w t kt vt (ρ.aH (.aj id)).b br clock ht hb];rfl
  .have bM:(bG.push {ρ with S:=λb=>ρ.S b\/b=(ρ.aH (.aj id)).b} lo).aH (.aj m.length)=lo:=by
    have:=bG.fT {ρ with S:=λb=>ρ.S b\/b=(ρ.aH (.aj id)).b} lo
    rw[<-hM.n];exact this
   refine⟨by show m.length<ρ.n+1;rw[hM.n];omega,?_⟩
   rw[bM]
 .exact h.elim
theorem wv:∀{L:List MapEntry}{i:Nat}{e:MapEntry},L[i]? =some e->(L.map (·.born)).Nodup->L.filter (λx=>!(x.born==e.born))=L.eraseIdx i
 | [],i,e,h,_=>by simp at h
 |x::r,0,e,h,hn=>by
  simp only[ack,aat]at h;subst h;rw[aaJ,abS]at hn;rw[aca,if_neg aC,List.eraseIdx_zero,List.tail_cons];refine acF.2 λy hy=>?_
  have:y.born≠x.born:=λhe=>hn.1 (he▸aas.2 ⟨y,hy,rfl⟩)
  simpa using this
 |x::r,i+1,e,h,hn=>by
  simp only[abC]at h;rw[aaJ,abS]at hn;have:x.born≠e.born:=λhe=>hn.1 (he▸aas.2 ⟨e,Sj h,rfl⟩)
  rw[aca,if_pos (by simpa using this),List.eraseIdx_cons_succ,wv h hn.2]
theorem IY{br:Array MapEntry}{clock:Nat}(hb:gR br clock){seen:Array Nat}{i:Nat}{e:MapEntry}(h:(br.filter λe=>!seen.contains e.born).toList[i]? =some e):
  (br.filter λx=>!(seen.push e.born).contains x.born).toList=(br.filter λe=>!seen.contains e.born).toList.eraseIdx i:=by
 have e0:(br.filter λe=>!seen.contains e.born).toList=br.toList.filter λe=>!seen.contains e.born:=aC
 have e1:(br.filter λx=>!(seen.push e.born).contains x.born).toList=br.toList.filter λx=>!(seen.push e.born).contains x.born:=aC
 rw[e0]at h|-;rw[e1,<-wv h ((List.filter_sublist.map _).nodup hb.2),List.filter_filter];congr 1;funext x;by_cases h1:x.born=e.born<;>simp[h1,Array.contains_push,Bool.and_comm]
theorem IZ(hM:ax ρ m w)(hE:bj ρ w aX a.tmps){ty:TypeId}{x:Operand}{x':X}(hx:bn x=some x')(h:step P (.sY x') aX m K):db P (do pure (Next.value (<-Instr.next (a.eval x) false ty))) ρ m w K:=by
 have rF:=aQ hE hx;simp only[step]at h;generalize a.eval x=xv at rF|-;split at h
 .rename_i id heq;rw[heq]at rF;obtain⟨bk,c9,h⟩:=aV.1 h;rw[aT]at c9;split at h
  case h_3=>exact h.elim
  case h_2=>
   rename_i mid gZ seen;obtain⟨b2,fx,h⟩:=aV.1 h;rw[aT]at fx;split at h
   .obtain⟨hc,ho,hs⟩:=h;obtain⟨aD,rfl⟩:=rF;have h2:=(hM.bk id _ c9).2.1;have hp:(Value.pointer (some ⟨(ρ.aH (.aj id)).b,(ρ.aH (.aj id)).ar+0,none⟩))= .pointer (some ⟨(ρ.aH (.aj id)).b,0,none⟩):=by rw[h2]
    rw[hp];exact S6 hM c9 fx hc ho hs
   .exact h.elim
  rename_i cur left;obtain⟨LW,nX⟩:=h;obtain⟨aD,rfl⟩:=rF;obtain⟨mb,seen,clock,br,h1,h2,h3,h4,h5,h6,h7,h8⟩:=hM.bk id _ c9;have bX:Live ρ m (.aj id):=⟨_,c9,aC,by rintro⟨_,_,e⟩;cases e⟩
  have hp:(Value.pointer (some ⟨(ρ.aH (.aj id)).b,(ρ.aH (.aj id)).ar+0,none⟩))= .pointer (some ⟨(ρ.aH (.aj id)).b,0,none⟩):=by rw[h2]
  rw[hp];rcases run_next_at (P:=P) w ty (ρ.aH (.aj id)).b mb clock clock seen br clock h1 h4 h5.1 (T5 _)with⟨h0,cN⟩|⟨e,he,w1,S9,cN⟩
  .refine db.pure hM (v:= .tuple #[.bool false]) (by rw[Sem.run_bind,cN];rfl) (LW ?_) ⟨[.bool false],rfl,rfl,λi r hi=>?_⟩
   .rw[<-h6];have:(br.filter λe=>!seen.contains e.born).toList=[]:=acX.1 (by simpa[leftOf]using h0)
    rw[this];rfl
   .match i,hi with
    |0,hi=>cases hi;exact⟨_,rfl,.val _ rfl⟩
  .obtain⟨i,hi⟩:=X1 he;have hi:(br.filter λe=>!seen.contains e.born).toList[i]? =some e:=hi
   have hli:left[i]? =some (e.key,e.val):=by rw[<-h6,Sf,hi];rfl
   have i3:=h8 _ (.inl (Sj hli));have hK:=nX i e.key e.val _ hli rfl;rw[aY]at hK;have hbe:(ρ.aH (.aj id)).b≠mb:=λhh=>(hM.aP _ bX).2 (hh▸h3)
   have hh:w1.heap=w.heap/\w1.os=w.os/\w1.tape=w.tape/\w1.output=w.output:=by rcases S9 with rfl|rfl<;>exact⟨rfl,rfl,rfl,rfl⟩
   have PL:(ρ.aH (.aj id)).b<w.heap.size:=(hM.aP _ bX).1;have mP:eM w (Go.ChangeMaps.setBlock w1 (ρ.aH (.aj id)).b (.mapIter (some mb) clock (seen.push e.born) clock)) (ρ.aH (.aj id)).b:=
    ⟨λb du=>by show(w1.heap.setIfInBounds _ _)[b]? =_;rw[hh.1,aco (Ne.symm du)],by show(w1.heap.setIfInBounds _ _).size=_;rw[Array.size_setIfInBounds,hh.1],hh.2.1,hh.2.2.1,hh.2.2.2⟩
   obtain⟨i4,hX⟩:=hM.KT (yS:= .it [(e.key,e.val)] (left.eraseIdx i)) c9 bX mP (λg=>⟨mb,seen.push e.born,clock,br,by
     show(w1.heap.setIfInBounds _ _)[_]? =_;rw[hh.1,acd PL],h2,h3,(mP.heap mb (Ne.symm hbe)).trans h4,h5,by
     rw[IY h5 hi,<-h6];exact Go.ChangeMaps.map_eraseIdx _ _ _,λp hp=>⟨e,seen,by
      have:e∈(br.filter λe=>!seen.contains e.born).toList:=Sj hi
      simp at this|-;exact this.1,rfl,(acn.1 hp).symm⟩,λp hp=>by
     rcases hp with hp|hp
     .exact h8 p (.inl (List.mem_of_mem_eraseIdx hp))
     .simp at hp;subst hp;exact i3⟩) (by
     rintro i' j' esz e ⟨b2,fx,gQ⟩;rw[SC (by rw[<-hM.n];exact aD)]at fx
     cases fx;cases gQ)
   refine⟨_,.tuple #[.bool true,e.key,e.val],_,_,_,ρ,by rw[Sem.run_bind,cN];rfl,.inl rfl,hK,i4,⟨[.bool true,e.key,e.val],rfl,rfl,λi r hi=>?_⟩,hX⟩
   match i,hi with
   |0,hi=>cases hi;exact⟨_,rfl,.val _ rfl⟩
   |1,hi=>cases hi;exact⟨_,rfl,.val _ i3.1⟩
   |2,hi=>cases hi;exact⟨_,rfl,.val _ i3.2⟩
 .exact h.elim
theorem I0(hM:ax ρ m w)(hE:bj ρ w aX a.tmps){x:Operand}{x':X}(hx:bn x=some x')(h:step P (.Vl x') aX m K):db P (do pure (Next.value (<-Instr.entry (a.eval x)))) ρ m w K:=by
 have rF:=aQ hE hx;simp only[step]at h;generalize a.eval x=xv at rF|-;split at h
 .rename_i id heq;rw[heq]at rF;obtain⟨bk,c9,h⟩:=aV.1 h;rw[aT]at c9;split at h
  case h_3=>exact h.elim
  case h_2=>
   rename_i mid gZ s seen;obtain⟨b2,fx,h⟩:=aV.1 h;rw[aT]at fx;split at h
   .obtain⟨hc,i,x,hx,hs,hK⟩:=h;obtain⟨aD,rfl⟩:=rF;have h2:=(hM.bk id _ c9).2.1;have hp:(Value.pointer (some ⟨(ρ.aH (.aj id)).b,(ρ.aH (.aj id)).ar+0,none⟩))= .pointer (some ⟨(ρ.aH (.aj id)).b,0,none⟩):=by rw[h2]
    rw[hp];exact Ta hM c9 fx hc hx hs hK
   .exact h.elim
  .rename_i p tl ab5;obtain⟨aD,rfl⟩:=rF;obtain⟨mb,seen,clock,br,h1,h2,h3,h4,h5,h6,h7,h8⟩:=hM.bk id _ c9;obtain⟨e,Lh,he,rfl,hp⟩:=h7 p aC;have i3:=h8 p (.inr aC);subst hp;have hp:(Value.pointer (some ⟨(ρ.aH (.aj id)).b,(ρ.aH (.aj id)).ar+0,none⟩))= .pointer (some ⟨(ρ.aH (.aj id)).b,0,none⟩):=by rw[h2]
   rw[hp];have cN:=run_entry_at (P:=P) w (ρ.aH (.aj id)).b mb clock Lh br clock e h1 h4 he h5.2;refine db.pure hM (v:= .tuple #[e.key,e.val]) (by rw[Sem.run_bind,cN];rfl) h ⟨[e.key,e.val],rfl,rfl,λi r hi=>?_⟩
   match i,hi with
   |0,hi=>cases hi;exact⟨_,rfl,.val _ i3.1⟩
   |1,hi=>cases hi;exact⟨_,rfl,.val _ i3.2⟩
 .exact h.elim
end
end Go.AM
namespace Go.AM
section
variable {P:Program} {ρ:bG} {m:Mem} {w:World} {aX:List CV} {a:Act} {K:CV->Mem->Prop}
theorem ww{α:Type}{l:List α}{h:Nat}{E:List α}(hle:h+E.length<=l.length):(cT l h E).length=l.length:=by simp[cT];omega
theorem qG{α:Type}{l:List α}{h:Nat}{E:List α}(hle:h+E.length<=l.length)(i:Nat):(cT l h E)[i]? =if h<=i/\i<h+E.length then E[i-h]? else l[i]? :=by
 have hl:(l.take h).length=h:=by simp;omega
 simp only[cT];rcases aaf i h with h1|h1
 .rw[YN om,if_neg om,aaF,if_pos h1]
 .rw[Xi om,hl];rcases aaf (i-h) E.length with h2|h2
  .rw[YN h2,if_pos om]
  .rw[Xi h2,if_neg om,aaX];congr 1;omega
theorem bi.LZ{c:CC}{v:Value}{pos:Option (Nat×Nat×Nat)}(hc:c.jc=true)(h:bi ρ w pos c v):bi ρ w .none c v:=by
 cases c<;>first|exact h|simp[CC.jc]at hc
theorem tt(hM:ax ρ m w){id esz h:Nat}{rows E:List (List CC)}{vs:List Value}(hb:m[id]? =some (.row esz rows))(hle:h+E.length<=rows.length)(cH:0<rows.length)(hE:∀cs,cs∈E->cs.length=esz)(yr:vs.length=E.length*esz)(LY:∀u,u∈vs->u.oneCell'=true)(cg:∀(i:Nat)cs(j:Nat)c,E[i]? =some cs->cs[j]? =some c->∃u,vs[i*esz+j]? =some u/\bi ρ w .none c u):
  ∃w',(storeCells ⟨(ρ.aH (.aj id)).b,(ρ.aH (.aj id)).ar+h*esz,none⟩ vs).run P w= .ok () w'/\ax ρ (m.set id (.row esz (cT rows h E))) w'/\Ext ρ m w ρ (m.set id (.row esz (cT rows h E))) w':=by
 have hid:id<m.length:=(JJ.1 hb).1;obtain⟨h2,h3,h4,h5,BV⟩:=hM.bk id _ hb;have bc:0<(ρ.aH (.aj id)).cap:=om;obtain⟨cur,bW,h1,hd⟩:=BV bc;have hmul:(h+E.length)*esz<=(ρ.aH (.aj id)).cap*esz:=aaQ _ om;rw[aaZ]at hmul;obtain⟨w',gK,hr,rA,ht,dj,hk⟩:=nB (P:=P) (ρ.aH (.aj id)).b ((ρ.aH (.aj id)).ar+h*esz) vs 0 cur w bW (by rw[yr];omega) LY
 obtain⟨i4,hX⟩:=hM.KT (yS:= .row esz (cT rows h E)) hb ⟨_,hb,aC,λ_=>bc⟩ ht (λg=>⟨by rw[ww hle];exact h2,h3,h4,λcs eC=>by
   obtain⟨i,hi⟩:=X1 eC;rw[qG hle]at hi;split at hi
   .exact hE cs (Sj hi)
   .exact h5 cs (Sj hi),λ_=>⟨gK,rA,by rw[dj];exact h1,λi cs j c hi hj=>by
  rw[hk];rw[qG hle]at hi;have nu:j<esz:=by
   have im:cs.length=esz:=by
    split at hi
    .exact hE cs (Sj hi)
    .exact h5 cs (Sj hi)
   rw[<-im];exact(JJ.1 hj).1
  split at hi
  .rename_i iY;obtain⟨u,hu,cu⟩:=cg _ cs j c hi hj;have e1:i*esz=h*esz+(i-h)*esz:=by rw[<-aaZ];congr 1;omega
   have aD:=(JJ.1 hu).1;rw[if_pos om];refine⟨u,?_,(cu.ce g aC).wa _⟩;rw[<-hu];congr 1;omega
  .rename_i iY;obtain⟨u,hu,cu⟩:=hd i cs j c hi hj;have du:¬((ρ.aH (.aj id)).ar+h*esz+0<=(ρ.aH (.aj id)).ar+i*esz+j/\(ρ.aH (.aj id)).ar+i*esz+j<(ρ.aH (.aj id)).ar+h*esz+0+vs.length):=by
    rw[yr];rcases aaf i h with q|q
    .have:(i+1)*esz<=h*esz:=aaQ _ q;rw[aaZ,ace]at this;omega
    .have:(h+E.length)*esz<=i*esz:=aaQ _ om;rw[aaZ]at this;omega
   rw[if_neg du];exact⟨u,hu,cu.ce g (by rintro _ _ _ e;cases e;rw[hM.n];exact hid)⟩⟩⟩) (by
  rintro i' j' rx e ⟨b2,fx,gQ⟩;rw[SC hid]at fx;cases fx;obtain⟨Yk,eY,lG⟩:=gQ.yi;rw[qG hle]at eY;split at eY
  .obtain⟨u,hu,cu⟩:=cg _ _ _ _ eY lG;exact absurd rfl (cu.Ao _ _)
  .exact⟨_,hb,.row eY lG⟩)
 exact⟨w',hr,i4,hX⟩
theorem wx:∀{cs:List CC},qy cs=true->∀c,c∈cs->c.jc=true
 | [],_,c,h=>by simp at h
 |x::r,h,c,hc=>by
  simp only[qy,aac]at h;rcases aaB.1 hc with rfl|hc
  .exact h.1
  .exact wx h.2 c hc
theorem pZ:∀{E:List (List CC)},fw E=true->∀cs,cs∈E->qy cs=true
 | [],_,c,h=>by simp at h
 |x::r,h,c,hc=>by
  simp only[fw,aac]at h;rcases aaB.1 hc with rfl|hc
  .exact h.1
  .exact pZ h.2 c hc
theorem p0{E:List (List CC)}(h:fw E=true){i j:Nat}{cs:List CC}{c:CC}(hi:E[i]? =some cs)(hj:cs[j]? =some c):c.jc=true:=
 wx (pZ h cs (Sj hi)) c (Sj hj)
theorem Cu(hM:ax ρ m w){t t2 ty e e2:TypeId}{i:TypeInfo}{z:List CC}{v v2:Value}{c2:CV}{id h:Nat}{rows E2:List (List CC)}(ht:P.underlying t=some (.slice e))(wh:P.underlying t2=some (.slice e2))(hi:P.info? e=some i)(hz:d6 P e=some z)(dj:i.size=z.length)(hb:0<i.bytes)(hd:bZ ρ w (.rv (.one (.row id i.size 0 (some h)))) v)(pX:bZ ρ w c2 v2)(c9:m[id]? =some (.row i.size rows))(Ee:fu m i.size c2=some E2)(cH:0<rows.length)(hle:h+E2.length<=rows.length)(jX:fw E2=true)(kD:rows.length*i.bytes<=140737488355328)(hK:K (.rv (.one (.row id i.size 0 (some (h+E2.length))))) (m.set id (.row i.size (cT rows h E2)))):
  db P (do pure (Next.value (<-Builtin.append_ #[t,t2] ty #[v,v2]))) ρ m w K:=by
 have hid:id<m.length:=(JJ.1 c9).1;have Av:fu m i.size (.rv (.one (.row id i.size 0 (some h))))=some (bV rows 0 (some h)):=by simp[fu,aT,c9]
 obtain⟨Pz,kF,UM,EL,VG,PA,F1⟩:=nD hM Av hd;obtain⟨ad2,LD,LG,vd,VH,VI,F2⟩:=nD hM Ee pX;have Eb:=hz;simp only[d6,T3,OJ]at Eb;obtain⟨i',eH,zv,PB,Px⟩:=Eb;rw[hi]at eH;cases eH;have VY:(bV rows 0 (some h)).length=h:=by rw[jE];simp;omega
 rw[VY]at EL VG;have VZ:(h+E2.length)*i.bytes<=140737488355328:=abP (aaQ _ hle) kD;have cN:=oK (P:=P) (w:=w) (ty:=ty) ht wh hi PB (a0:=Pz) (n1:=h) (c1:=kF) (n2:=E2.length) (src:=v2) (olds:=UM) (news:=LG)
  (by rw[vd];rfl) (λk=>by rw[vd];exact F2.firstCells LD k) (λk=>by have:=F1.firstCells (P:=P) kF k;rwa [VY]at this) hb VZ
 obtain⟨r2,r3,r4,r5,IM⟩:=hM.bk id _ c9;obtain⟨aD,d1,d2,d3,d4,ad,PE,u7⟩:=hd;rw[PE]at EL;injection EL with q1 q2 q3
 simp only[acr]at q3;have BW:h+E2.length<=kF:=by rw[<-q3];clear IM;omega
 have tp:=u7 (by clear IM;omega)
 rw[if_pos BW]at cN;obtain⟨w',lF,i4,hX⟩:=tt (P:=P) hM (h:=h) (E:=E2) (vs:=LG) c9 hle cH F2.lK F2.len F2.one (λk cs j c hk hj=>by obtain⟨u,hu,cu⟩:=F2.jD k cs j c hk hj;exact⟨u,hu,cu.LZ (p0 jX hk hj)⟩)
 refine⟨.value (.slice Pz (h+E2.length) kF),_,w',.rv (.one (.row id i.size 0 (some (h+E2.length)))),_,ρ,?_,.inl rfl,hK,i4,?_,hX⟩
 .rw[PE,q1,q2,show(ρ.aH (.aj id)).cap-0=kF by simpa using q3,Sem.run_bind,cN]
  rw[<-q1,tp];simp only[yZ,mg,ac5,acB];rw[lF];rfl
 .refine⟨aD,aan _,?_,d3,d4,Pz,?_,λh0=>by rw[<-q1];exact u7 h0⟩
  .show h+E2.length<=_;clear IM;omega
  .simp only[abH,acr];rw[q3]
theorem Cv(hM:ax ρ m w){t ty e:TypeId}{i:TypeInfo}{z:List CC}{v:Value}{id lo hi:Nat}{rows:List (List CC)}(ht:P.underlying t=some (.slice e))(eH:P.info? e=some i)(hz:d6 P e=some z)(dj:i.size=z.length)(hd:bZ ρ w (.rv (.one (.row id i.size lo (some hi)))) v)(c9:m[id]? =some (.row i.size rows))(ia:lo<hi)(hle:hi<=rows.length)(hK:K (.bz []) (m.set id (.row i.size (cT rows lo (gm (hi-lo) z))))):
  db P (do pure (Next.value (<-Builtin.clear_ #[t] ty #[v]))) ρ m w K:=by
 have hid:id<m.length:=(JJ.1 c9).1;have Eb:=hz;simp only[d6,T3,OJ]at Eb;obtain⟨i',eY,zv,PB,Px⟩:=Eb;rw[eH]at eY;cases eY;obtain⟨Zq,IT⟩:=fg (ρ:=ρ) (w:=w) Px;have Pa:zv.cells.size=z.length:=by simpa using Zq
 obtain⟨r2,r3,r4,r5,IM⟩:=hM.bk id _ c9;obtain⟨aD,d1,d2,d3,d4,ad,PE,u7⟩:=hd;have tp:=u7 (by clear IM;omega)
 have hrl:(gm (hi-lo) z).length=hi-lo:=by rw[fM];simp
 obtain⟨w',lF,i4,hX⟩:=tt (P:=P) hM (h:=lo) (E:=gm (hi-lo) z) (vs:=(Builtin.zeroCells zv.cells (hi-lo)).toList) c9 (by rw[hrl];omega) om
  (λcs eC=>by rw[fM]at eC;rw[acp eC,dj]) (by rw[hrl,ab6,size_zeroCells,Pa,dj])
  (λu hu=>by
   rw[ac6]at hu;simp only[Builtin.zeroCells,Array.mem_map]at hu;obtain⟨k,hk,rfl⟩:=hu;have hk:k<(hi-lo)*zv.cells.size:=by simpa using hk
   have hzp:0<zv.cells.size:=by
    rcases abz zv.cells.size with h0|h0
    .rw[h0]at hk;simp at hk
    .exact h0
   have hm:k%zv.cells.size<zv.cells.size:=Nat.mod_lt _ hzp;rw[Pa]at hm;obtain⟨u,hu,cu⟩:=IT _ _ (vl hm);have va:zv.cells[k%zv.cells.size]? =some u:=by rw[Pa];simpa using hu
   rw[getElem!_def,va];exact cu.one)
  (λk cs j c hk hj=>by
   rw[fM]at hk;have kg:=(JJ.1 hk).1;simp at kg;have eC:cs=z:=acp (Sj hk);subst eC;have yu:=(JJ.1 hj).1;obtain⟨u,hu,cu⟩:=IT j c hj;refine⟨u,?_,cu⟩;have aD:k*i.size+j<(hi-lo)*zv.cells.size:=by have:(k+1)*i.size<=(hi-lo)*i.size:=aaQ _ kg;rw[aaZ,ace]at this;rw[Pa,<-dj];omega
   simp only[Builtin.zeroCells,abD,adg,Array.getElem?_range];rw[if_pos aD];simp only[aax,aat];have hm:(k*i.size+j)%zv.cells.size=j:=by rw[Pa,dj,acT,adB,adu yu]
   rw[hm];have va:zv.cells[j]? =some u:=by simpa using hu
   rw[getElem!_def,va])
 refine⟨.value (.tuple #[]),_,w',.bz [],_,ρ,?_,.inl rfl,hK,i4,⟨[],rfl,rfl,λi r h=>by simp at h⟩,hX⟩
 have hn:hi-lo≠0:=om;simp only[abH]at PE;rw[PE,tp];obtain⟨n,O7⟩:∃n,hi-lo=n+1:=⟨hi-lo-1,om⟩;rw[O7]at lF|-;simp[Builtin.clear_,run_underlying ht,zeroValue,typeInfo,eH,PB,lF]
theorem I1(hM:ax ρ m w)(hE:bj ρ w aX a.tmps){t t2 ty e e2:TypeId}{i:TypeInfo}{z:List CC}{x y:Operand}{x' y':X}(ht:P.underlying t=some (.slice e))(wh:P.underlying t2=some (.slice e2))(hi:P.info? e=some i)(hz:d6 P e=some z)(dj:i.size=z.length)(cH:0<z.length)(hb:0<i.bytes)(hx:bn x=some x')(hy:bn y=some y')(h:step P (.ov i.size i.bytes x' y') aX m K):
  db P (do pure (Next.value (<-Builtin.append_ #[t,t2] ty #[a.eval x,a.eval y]))) ρ m w K:=by
 simp only[step]at h;rcases cf.1 h with⟨y6,g1⟩|⟨_,g1⟩
 .exact EK hM hE ht wh hi hz dj cH hb hx hy y6 g1
 .have hd:=aQ hE hx;have pX:=aQ hE hy;split at g1
  .rename_i id e1 lo hh Rt;rw[Rt]at hd;obtain⟨bk,c9,g2⟩:=aV.1 g1;rw[aT]at c9;split at g2
   .rename_i e2' rows;obtain⟨E2,Ee,g3⟩:=aV.1 g2;rcases cf.1 g3 with⟨hc,kD,hK⟩|⟨_,g4⟩
    case inr=>exact g4.elim
    simp only[aac,aaU]at hc;obtain⟨q1,q2,q3,c1,c2,c3⟩:=hc;have q1:=aam q1;have q2:=aam q2;have q3:=aam q3;subst q1 q2 q3;rw[aY]at hK;exact Cu hM ht wh hi hz dj hb hd pX c9 Ee c1 c2 c3 kD hK
   .exact g2.elim
  .exact g1.elim
theorem I2(hM:ax ρ m w)(hE:bj ρ w aX a.tmps){t ty e:TypeId}{i:TypeInfo}{z:List CC}{x:Operand}{x':X}(ht:P.underlying t=some (.slice e))(hi:P.info? e=some i)(hz:d6 P e=some z)(dj:i.size=z.length)(hx:bn x=some x')(h:step P (.UK i.size z x') aX m K):
  db P (do pure (Next.value (<-Builtin.clear_ #[t] ty #[a.eval x]))) ρ m w K:=by
 have hd:=aQ hE hx;simp only[step]at h;generalize a.eval x=v at hd|-;generalize x'.ev aX=c at hd h;have nothing:∀ad cap,v= .slice ad 0 cap->K (.bz []) m->db P (do pure (Next.value (<-Builtin.clear_ #[t] ty #[v]))) ρ m w K:=by
  intro ad cap hv hK;refine⟨.value (.tuple #[]),_,w,.bz [],m,ρ,?_,.inl rfl,hK,hM,⟨[],rfl,rfl,λi r h=>by simp at h⟩,Ext.refl _ _ _⟩
  subst hv;cases ad<;>simp[Builtin.clear_,run_underlying ht]
 split at h
 .rename_i id e1 lo eH;obtain⟨bk,c9,h⟩:=aV.1 h;rw[aT]at c9;split at h
  .rename_i e2 rows;rcases cf.1 h with⟨hc,iY⟩|⟨_,iY⟩
   case inr=>exact iY.elim
   clear h;simp only[aac,aaU]at hc;obtain⟨q1,q2,hle⟩:=hc;have q1:=aam q1;have q2:=aam q2;subst q1 q2;obtain⟨r2,_⟩:=hM.bk id _ c9;have yd:bZ ρ w (.rv (.one (.row id i.size lo (some (qz eH rows.length))))) v:=by
    obtain⟨d0,d1,d2,d3,d4,ad,hv,u7⟩:=hd;cases eH with
    |none=>
     simp only[acJ]at d1 d2 hv;refine⟨d0,?_,?_,d3,d4,ad,?_,u7⟩<;>simp only[qz,abH,r2]
     .exact d1
     .exact T5 _
     .exact hv
    |some hh=>exact⟨d0,d1,d2,d3,d4,ad,hv,u7⟩
   rcases cf.1 iY with⟨aD,hK⟩|⟨ek,hK⟩
   .rw[aY]at hK;exact Cv hM ht hi hz dj yd c9 (by simpa[abW]using aD) hle hK
   .have ek:¬lo<qz eH rows.length:=λhh=>by rw[<-abW,ek]at hh;cases hh
    obtain⟨d0,d1,d2,d3,d4,ad,hv,u7⟩:=yd;simp only[abH]at hv;rw[show qz eH rows.length-lo=0 by omega]at hv
    exact nothing _ _ hv hK
  .exact h.elim
 .obtain⟨ad,hv⟩:=hd;exact nothing _ _ hv h
 .exact h.elim
theorem L4{c:CV}{v:Value}(hc:Lo c=true)(hd:bZ ρ w c v):∃ad n cap,v= .slice ad n cap:=by
 unfold Lo at hc;split at hc;all_goals first
  |(cases hc;done)
  |(have hd:de _ _ _ _:=hd;cases hd<;>exact⟨_,_,_,rfl⟩)
  |(obtain⟨a,hv⟩:=hd;exact⟨_,_,_,hv⟩)
  |(obtain⟨_,_,_,_,_,a,hv,_⟩:=hd;exact⟨_,_,_,hv⟩)
theorem ET(hM:ax ρ m w)(hE:bj ρ w aX a.tmps){t t2 ty e:TypeId}{i:TypeInfo}{z:List CC}{x y:Operand}{x' y':X}(ht:P.underlying t=some (.slice e))(hi:P.info? e=some i)(hz:d6 P e=some z)(dj:i.size=z.length)(hx:bn x=some x')(hy:bn y=some y')(h:step P (.copy i.size x' y') aX m K):
  db P (do pure (Next.value (<-Builtin.copy_ #[t,t2] ty #[a.eval x,a.eval y]))) ρ m w K:=by
 have hd:=aQ hE hx;have pX:=aQ hE hy;simp only[step]at h;generalize a.eval x=v at hd|-;generalize a.eval y=v2 at pX|-;generalize x'.ev aX=c at hd h;generalize y'.ev aX=c2 at pX h;obtain⟨E,Ee,h⟩:=aV.1 h;obtain⟨ad2,LD,LG,vd,VH,VI,F2⟩:=nD hM Ee pX;have hn:=F2.firstCells (P:=P) LD 0;rw[show w.drewN 0=w from rfl]at hn;have h':=h;clear h;rcases cf.1 h' with⟨h0,g⟩|⟨h0,g⟩
 .have h0:E.length=0:=aam h0;rcases cf.1 g with⟨hs,hK⟩|⟨_,g⟩
  case inr=>exact g.elim
  obtain⟨ad,n,cap,hv⟩:=L4 hs hd;have yr:LG=[]:=aai (by rw[F2.len,h0,ac5])
  rw[h0]at hn vd;rw[yr]at hn;refine⟨.value (goInt 0),_,w,an .i64 0,m,ρ,?_,.inl rfl,hK,hM,de.val (.int .i64 0) rfl,Ext.refl _ _ _⟩;subst hv vd;cases ad<;>simp[Builtin.copy_,run_underlying ht,Builtin.lenOf,sizeOf,typeInfo,hi,hn,storeCells]
 .split at g
  .clear h';rename_i rid e1 lo eH;obtain⟨bk,c9,g⟩:=aV.1 g;rw[aT]at c9;split at g
   .rename_i e2 rows;rcases cf.1 g with⟨hc,hK⟩|⟨_,g⟩
    case inr=>exact g.elim
    clear g;simp only[aac,aaU]at hc;obtain⟨q1,q2,hle,kD,jX⟩:=hc;have q1:=aam q1;have q2:=aam q2;subst q1 q2;have cH:0<E.length:=by
     rcases abz E.length with e0|e0
     .rw[e0]at h0;cases h0
     .exact e0
    obtain⟨r2,r3,_⟩:=hM.bk rid _ c9;have yd:bZ ρ w (.rv (.one (.row rid i.size lo (some (qz eH rows.length))))) v:=by
     obtain⟨d0,d1,d2,d3,d4,ad,hv,u7⟩:=hd;cases eH with
     |none=>
      simp only[acJ]at d1 d2 hv;refine⟨d0,?_,?_,d3,d4,ad,?_,u7⟩<;>simp only[qz,abH,r2]
      .exact d1
      .exact T5 _
      .exact hv
     |some hh=>exact⟨d0,d1,d2,d3,d4,ad,hv,u7⟩
    obtain⟨w',lF,i4,hX⟩:=tt (P:=P) hM (h:=lo) (E:=E) (vs:=LG) c9 om om F2.lK F2.len F2.one (λk cs j c hk hj=>by obtain⟨u,hu,cu⟩:=F2.jD k cs j c hk hj;exact⟨u,hu,cu.LZ (p0 jX hk hj)⟩)
    rw[aY]at hK;obtain⟨d0,d1,d2,d3,d4,ad,hv,u7⟩:=yd;simp only[abH]at hv d2;have tp:=u7 om;have Zv:Nat.min E.length (qz eH rows.length-lo)=E.length:=acP om;refine⟨.value (goInt E.length),_,w',an .i64 (E.length:Int),_,ρ,?_,.inl rfl,hK,i4,de.val (.int .i64 (E.length:Int)) rfl,hX⟩;subst hv vd tp;simp[Builtin.copy_,run_underlying ht,Builtin.lenOf,sizeOf,typeInfo,hi,hn,Zv,lF]
   .exact g.elim
  .exact g.elim
theorem EU(hM:ax ρ m w)(hE:bj ρ w aX a.tmps){t e:TypeId}{n sz:Nat}{agg:Bool}{x k:Operand}{x' k':X}(hu:P.underlying t=some (.array n e))(ha:dW P e=some agg)(hs:eE P e=some sz)(hx:bn x=some x')(hk:bn k=some k')(h:step P (.Ll agg n sz x' k') aX m K):db P (do pure (Next.value (<-Instr.index t (a.eval x) (a.eval k)))) ρ m w K:=by
 have hd:=aQ hE hx;have yv:=aQ hE hk;simp only[step]at h;generalize a.eval x=v at hd|-;generalize a.eval k=vk at yv|-;generalize x'.ev aX=c at hd h;generalize k'.ev aX=ck at yv h;split at h
 .rename_i kd j;obtain⟨rfl,_⟩:=bC yv;split at h
  .rename_i cs;obtain⟨vs,rfl,hl,hc⟩:=hd;obtain⟨kk,BX,g1⟩:=aV.1 h;obtain⟨hj,aD⟩:=mJ BX;obtain⟨l,hr,g2⟩:=aV.1 g1;obtain⟨cv,hm,hK⟩:=aV.1 g2;clear h g1 g2;subst hj;obtain⟨u,cN,cu⟩:=Ck (w:=w) ha hs (cells:=vs.toArray) ⟨by simpa using hl,λi c hi=>by simpa using hc i c hi⟩ hr hm
   refine db.pure hM (v:=u) ?_ hK cu;have h1:(0:Int)<=(kk:Int)/\(kk:Int)<(n:Int):=om;simp[Instr.index,asIntOf,run_underlying hu,h1,ff hs,aD,cN]
  .exact h.elim
 .exact h.elim
theorem rI(hM:ax ρ m w)(hE:bj ρ w aX a.tmps){mx:Bool}{ts:Array TypeId}{ty:TypeId}{x y:Operand}{x' y':X}(hx:bn x=some x')(hy:bn y=some y')(h:step P (.jU mx [x',y']) aX m K):db P (do pure (Next.value (<-(if mx then Builtin.max_ ts ty #[a.eval x,a.eval y]else Builtin.min_ ts ty #[a.eval x,a.eval y])))) ρ m w K:=by
 have hd:=aQ hE hx;have pX:=aQ hE hy;simp only[step]at h;generalize a.eval x=v at hd|-;generalize a.eval y=u at pX|-;generalize x'.ev aX=c at hd h;generalize y'.ev aX=d at pX h;split at h
 .rename_i k p;obtain⟨rfl,_⟩:=bC hd;split at h
  .rename_i k2 q;obtain⟨rfl,_⟩:=bC pX;cases mx
   .refine db.pure hM (v:= .int k (if q<p then q else p)) ?_ h (cz rfl)
    simp[Builtin.min_,Builtin.min2]
   .refine db.pure hM (v:= .int k (if q>p then q else p)) ?_ h (cz rfl)
    simp[Builtin.max_,Builtin.max2]
  .exact h.elim
 .exact h.elim
theorem I3(hM:ax ρ m w)(hE:bj ρ w aX a.tmps){s e e2:TypeId}{x:Operand}{x':X}(hs:P.underlying s=some (.slice e))(he:P.underlying e=some (.int .u8))(hx:bn x=some x')(h:step P (.Yf x') aX m K):db P (do pure (Next.value (<-convert s s (a.eval x)))) ρ m w K:=by
 have hd:=aQ hE hx;simp only[step]at h;generalize a.eval x=v at hd|-;generalize x'.ev aX=c at hd h;split at h
 .rename_i id e1 lo hi;obtain⟨bk,c9,g1⟩:=aV.1 h;rw[aT]at c9;split at g1
  .rename_i esz rows;rcases cf.1 g1 with⟨aD,hK⟩|⟨_,g2⟩
   case inr=>exact g2.elim
   rw[aac,abW]at aD;obtain⟨nV,aD⟩:=aD;have nV:=aam nV;have hid:id<m.length:=(JJ.1 c9).1;have SP:=hd;obtain⟨d0,d1,d2,d3,d4,ad,hv,u7⟩:=hd;obtain⟨r2,r3,r4,r5,IM⟩:=hM.bk id _ c9;have bc:0<(ρ.aH (.aj id)).cap:=by clear IM;omega
   obtain⟨cur,bW,h1,cg⟩:=IM bc;have tp:=u7 (by clear IM;omega)
   obtain⟨ty,fr,ei,vA,jX,_⟩:=bW;have PL:=(aaw.1 ei).1;let V0:Nat×Nat:=if fr.1==fr.2 then(cur.size,cur.size+1)else(min fr.1 cur.size,max fr.2 (cur.size+1))
   let w':World:=w.freeze ⟨(ρ.aH (.aj id)).b,cur.size,none⟩ 1;have Tc:w'.heap[(ρ.aH (.aj id)).b]? =some (.cells cur ty V0):=by simp[w',World.freeze,aaV,ei,V0]
   have Cw:mf (esz=1) w' (ρ.aH (.aj id)).b cur:=by
    refine⟨ty,V0,Tc,?_,λi hi=>?_,.inl nV⟩
    .simp only[V0];split
     .simp
     .simp only;omega
    .simp only[V0];split
     .simp;omega
     .rename_i du;have du:fr.1≠fr.2:=by simpa using du
      have h0:cur.size<=fr.1:=by
       rcases aaf fr.1 cur.size with q|q
       .have:=jX fr.1 q;simp at this;omega
       .exact q
      simp;omega
   have ht:eM w w' (ρ.aH (.aj id)).b:=⟨λb hb=>by simp[w',World.freeze,aaV,Ne.symm hb],by simp[w',World.freeze],by simp[w',World.freeze],by simp[w',World.freeze],by simp[w',World.freeze]⟩
   obtain⟨i4,hX⟩:=hM.KT (yS:= .row esz rows) c9 ⟨_,c9,aC,λ_=>bc⟩ ht (λg=>⟨r2,r3,r4,r5,λ_=>⟨cur,Cw,h1,λi cs j c hi hj=>by
    obtain⟨u,hu,cu⟩:=cg i cs j c hi hj;exact⟨u,hu,cu.ce g (by rintro _ _ _ e;cases e;exact d0)⟩⟩⟩) (by
    rintro i' j' rx e ⟨b2,fx,gQ⟩;rw[SC hid]at fx;cases fx;exact⟨_,c9,gQ⟩)
   have jo:m.set id (.row esz rows)=m:=by
    apply abN;intro i;rw[aaS];split
    .rename_i hi;subst hi
     first|rw[c9]|rw[if_pos hid,c9]
    .rfl
   rw[jo]at i4 hX;refine⟨.value v,v,w',_,m,ρ,?_,.inl rfl,hK,i4,SP,hX⟩;have Zw:w.shape? (ρ.aH (.aj id)).b=some (ty,cur.size):=by unfold World.shape?;rw[ei]
   rw[hv,tp];simp[convert,run_underlying hs,run_underlying he,markStringish,Zw];rfl
  .exact g1.elim
 .exact h.elim
end
section
variable {P:Program} {ρ:bG} {m:Mem} {w:World} {aX:List CV} {a:Act} {K:CV->Mem->Prop}
theorem bj.ext{U':bG}{m':Mem}{w':World}{tmps:Array Value}(hM:ax ρ m w)(x:Ext ρ m w U' m' w')(hE:bj ρ w aX tmps):bj U' w' aX tmps:=
 ⟨hE.size,λi c hi=>let⟨v,hv,hd⟩:=hE.jD i c hi;⟨v,hv,bZ.ext hM x hd⟩⟩
theorem bj.set{tmps:Array Value}{d:Nat}{c:CV}{v:Value}(hE:bj ρ w aX tmps)(hd:bZ ρ w c v):bj ρ w (aX.set d c) (tmps.setIfInBounds d v):=by
 refine⟨by simp[hE.size],λi c' hi=>?_⟩
 by_cases h:d=i
 .subst h;have aD:d<aX.length:=by
   rcases aaf d aX.length with h|h
   .exact h
   .rw[aaz (by simpa using h)]at hi;cases hi
  rw[SC aD]at hi;cases hi;exact⟨v,by rw[ach];simp[hE.size,aD],hd⟩
 .rw[Xg h]at hi;obtain⟨u,hu,cu⟩:=hE.jD i c' hi;exact⟨u,by rw[ach,if_neg h];exact hu,cu⟩
theorem L5{d:Option Nat}{v:CV}{e:List CV}{K:List CV->Prop}:put d v e K=match d with|none=>K e|some d=>K (e.set d v):=by
 cases d with
 |none=>rfl
 |some d=>simp only[put,Vs,fe,aY]
theorem bj.put{d:Option Nat}{c:CV}{v:Value}(hE:bj ρ w aX a.tmps)(hd:bZ ρ w c v){K:List CV->Prop}(h:put d c aX K):
  ∃fD,K fD/\bj ρ w fD (a.put d v).tmps/\(a.put d v).defers=a.defers:=by
 rw[L5]at h;cases d with
 |none=>exact⟨aX,h,hE,rfl⟩
 |some d=>exact⟨_,h,hE.set hd,rfl⟩
theorem EV{o:Oper}{i:I}(hl:vU P o=some i)(uL:∀f xs ts,o.op≠.call {callee:= .value f,args:=xs,argTypes:=ts})(hM:ax ρ m w)(hE:bj ρ w aX a.tmps)(h:step P i aX m K):db P (execOp a.eval o) ρ m w K:=by
 unfold vU at hl;cases dK:o.op;all_goals rw[dK]at hl
 all_goals try(simp only at hl;cases hl;done)
 case move x=>
  simp only[T3,OJ]at hl;obtain⟨x',hx,hl⟩:=hl;cases hl;unfold execOp;rw[dK];exact db.pure hM rfl h (aQ hE hx)
 case assign x=>
  simp only[T3,OJ]at hl;obtain⟨x',hx,hl⟩:=hl;cases hl;unfold execOp;rw[dK];exact db.pure hM rfl h (aQ hE hx)
 case pick c x y=>
  simp only[T3,OJ]at hl;obtain⟨c',hc,x',hx,y',hy,hl⟩:=hl;cases hl;unfold execOp;rw[dK];exact EG hM hE hc hx hy h
 case alloc t=>
  simp only[T3,OJ]at hl;obtain⟨z,hz,hl⟩:=hl;cases hl;unfold execOp;rw[dK];exact Cg hM hz h
 case box t x=>
  simp only[T3,OJ]at hl;obtain⟨x',hx,hl⟩:=hl;cases hl;unfold execOp;rw[dK];exact IE hM hE hx h
 case build t ps=>
  simp only[T3,OJ]at hl;obtain⟨z,hz,hl⟩:=hl;unfold execOp;rw[dK];split at hl
  .rename_i fs hu;split at hl
   .rename_i fN;simp only[OJ]at hl;obtain⟨ot,hp,hl⟩:=hl;cases hl;exact uC hM hE hz (.inl ⟨fs,hu,fN,hp⟩) h
   .cases hl
  .rename_i n e hu;simp only[OJ]at hl;obtain⟨sz,hs,ot,hp,hl⟩:=hl;cases hl;exact uC hM hE hz (.inr ⟨n,e,sz,hu,hs,hp⟩) h
  .cases hl
 case buildSlice t n ps=>
  simp only[T3]at hl;unfold execOp;rw[dK];split at hl
  .rename_i e hu;simp only[OJ]at hl;obtain⟨z,hz,sz,hs,hl⟩:=hl;split at hl
   .rename_i hc;obtain⟨rfl,h2,h3⟩:=hc;simp only[OJ]at hl;obtain⟨ot,hp,hl⟩:=hl;cases hl;exact IK hM hE hu hz hs h2 h3 hp h
   .cases hl
  .cases hl
 case load t x=>
  simp only[T3,OJ]at hl;obtain⟨agg,ha,n,hs,x',hx,hl⟩:=hl;cases hl;unfold execOp;rw[dK];exact EA hM hE ha hs hx h
 case store t p x=>
  simp only[T3,OJ]at hl;obtain⟨n,hs,hl⟩:=hl;split at hl
  .cases hl
  .rename_i hn;simp only[OJ]at hl;obtain⟨p',hp,x',hx,hl⟩:=hl;cases hl;unfold execOp;rw[dK];exact Cj hM hE hs hn hp hx h
 case fieldAddr t x k=>
  simp only[T3]at hl;unfold execOp;rw[dK];split at hl
  .rename_i fs hu;simp only[OJ]at hl;obtain⟨f,hf,n,hs,hl⟩:=hl;split at hl
   .cases hl
   .rename_i hn;simp only[OJ]at hl;obtain⟨x',hx,hl⟩:=hl;cases hl;exact EB hM hE hu hf hs hn hx h
  .cases hl
 case field t x k=>
  simp only[T3]at hl;unfold execOp;rw[dK];split at hl
  .rename_i fs hu;simp only[OJ]at hl;obtain⟨f,hf,agg,ha,n,hs,x',hx,hl⟩:=hl;cases hl;exact IG hM hE hu hf ha hs hx h
  .cases hl
 case indexAddr t x k=>
  simp only[T3]at hl;unfold execOp;rw[dK];split at hl
  .rename_i e hu;simp only[OJ]at hl;obtain⟨n,hs,x',hx,k',hk,hl⟩:=hl;cases hl;exact IH hM hE hu hs hx hk h
  .rename_i len e hu;simp only[OJ]at hl;obtain⟨n,hs,x',hx,k',hk,hl⟩:=hl;cases hl;exact EC hM hE hu hs hx hk h
  .cases hl
 case index t x k=>
  simp only[T3]at hl;unfold execOp;rw[dK];split at hl
  .rename_i hu;simp only[OJ]at hl;obtain⟨x',hx,k',hk,hl⟩:=hl;cases hl;exact ED hM hE hu hx hk h
  .rename_i n e hu;simp only[OJ]at hl;obtain⟨agg,ha,sz,hs,x',hx,k',hk,hl⟩:=hl;cases hl;exact EU hM hE hu ha hs hx hk h
  .cases hl
 case binOp op t x y yt=>
  simp only[T3]at hl;unfold execOp;rw[dK];split at hl
  .simp only[OJ]at hl;obtain⟨x',hx,y',hy,hl⟩:=hl;cases hl;exact yU hM hE hx hy h
  .simp only[OJ]at hl;obtain⟨x',hx,y',hy,hl⟩:=hl;cases hl;exact yU hM hE hx hy h
  .rename_i e hu;split at hl
   .simp only[OJ]at hl;obtain⟨x',hx,hl⟩:=hl;cases hl;exact wm (neg:=false) hM hE hu hx h
   .simp only[OJ]at hl;obtain⟨x',hx,hl⟩:=hl;cases hl;exact wm (neg:=true) hM hE hu hx h
   .cases hl
  .rename_i hu;split at hl
   .simp only[OJ]at hl;obtain⟨x',hx,y',hy,hl⟩:=hl;cases hl;exact yV (neg:=false) hM hE hu hx hy h
   .simp only[OJ]at hl;obtain⟨x',hx,y',hy,hl⟩:=hl;cases hl;exact yV (neg:=true) hM hE hu hx hy h
   .cases hl
  .rename_i n e hu;split at hl
   .rename_i kk hg Zx hs;simp only[OJ]at hl;obtain⟨x',hx,y',hy,hl⟩:=hl;cases hl;exact wd (neg:=false) hM hE hu hg Zx hs hx hy h
   .rename_i kk hg Zx hs;simp only[OJ]at hl;obtain⟨x',hx,y',hy,hl⟩:=hl;cases hl;exact wd (neg:=true) hM hE hu hg Zx hs hx hy h
   .cases hl
  .rename_i fs hu;split at hl
   .rename_i ks hg hk;simp only[OJ]at hl;obtain⟨x',hx,y',hy,hl⟩:=hl;cases hl;exact yX (neg:=false) hM hE hu hg hk hx hy h
   .rename_i ks hg hk;simp only[OJ]at hl;obtain⟨x',hx,y',hy,hl⟩:=hl;cases hl;exact yX (neg:=true) hM hE hu hg hk hx hy h
   .cases hl
  .cases hl
 case unOp op t x=>
  simp only[T3,OJ]at hl;obtain⟨x',hx,hl⟩:=hl;cases hl;unfold execOp;rw[dK];exact Ly hM hE hx h
 case convert s d x=>
  simp only[T3]at hl;unfold execOp;rw[dK];split at hl
  .rename_i hs hd;simp only[OJ]at hl;obtain⟨x',hx,hl⟩:=hl;cases hl;exact EE hM hE hs hd hx h
  .rename_i hs hd;simp only[OJ]at hl;obtain⟨x',hx,hl⟩:=hl;cases hl;exact II hM hE hs hd hx h
  .rename_i e hs hd;split at hl
   .rename_i he;simp only[OJ]at hl;obtain⟨x',hx,hl⟩:=hl;cases hl;exact IQ hM hE hs he hd hx h
   .cases hl
  .rename_i e hs hd;split at hl
   .rename_i he;simp only[OJ]at hl;obtain⟨x',hx,hl⟩:=hl;cases hl;exact IS hM hE hs hd he hx h
   .cases hl
  .rename_i e0 e hs hd;split at hl
   .rename_i Zy he;simp only[OJ]at hl;obtain⟨x',hx,hl⟩:=hl;cases hl;have Zy:s=d:=by simpa using Zy
    subst Zy;rw[hs]at hd;cases hd;exact I3 (e2:=e0) hM hE hs he hx h
   .cases hl
  .cases hl
 case range t x=>
  dsimp only at hl;unfold execOp;rw[dK];split at hl
  .rename_i kt vt hu;simp only[T3,OJ]at hl;obtain⟨x',hx,hl⟩:=hl;cases hl;exact IX hM hE hu hx h
  .cases hl
 case next it b=>
  cases b with
  |false=>
   simp only[T3,OJ]at hl;unfold execOp;rw[dK];obtain⟨x',hx,hl⟩:=hl;cases hl;exact IZ hM hE hx h
  |true=>cases hl
 case entry it=>
  simp only[T3,OJ]at hl;unfold execOp;rw[dK];obtain⟨x',hx,hl⟩:=hl;cases hl;exact I0 hM hE hx h
 case makeMap t r=>
  dsimp only at hl;unfold execOp;rw[dK];split at hl
  .cases hl;exact uI hM (.inl rfl) h
  .rename_i k n kt et hu;cases hl;exact uI hM (.inr ⟨k,n,kt,et,rfl,hu⟩) h
  .cases hl
 case makeSlice t l c=>
  simp only[T3]at hl;unfold execOp;rw[dK];split at hl
  .rename_i e hu;simp only[OJ]at hl;obtain⟨i,hi,z,hz,hl⟩:=hl;split at hl
   .rename_i hc;obtain⟨h1,h2,h3⟩:=hc;simp only[OJ]at hl;obtain⟨l',Ax,c',rA,hl⟩:=hl;cases hl;exact yq hM hE hu hi hz h1 h2 h3 Ax rA h
   .cases hl
  .cases hl
 case lookup t x k b=>
  simp only[T3]at hl;unfold execOp;rw[dK];split at hl
  .rename_i kt vt hu;simp only[OJ]at hl;obtain⟨z,hz,kk,hk,x',hx,k',LU,hl⟩:=hl;cases hl;exact ER hM hE hu hz hk hx LU h
  .cases hl
 case mapUpdate t x k v=>
  simp only[T3]at hl;unfold execOp;rw[dK];split at hl
  .rename_i kt vt hu;simp only[OJ]at hl;obtain⟨kk,hk,x',hx,k',LU,v',hv,hl⟩:=hl;cases hl;exact wu hM hE hu hk hx LU hv h
  .cases hl
 case insert t x k v=>
  simp only[T3]at hl;unfold execOp;rw[dK];split at hl
  .rename_i kt vt hu;simp only[OJ]at hl;obtain⟨kk,hk,x',hx,k',LU,v',hv,hl⟩:=hl;cases hl;exact wu hM hE hu hk hx LU hv h
  .cases hl
 case makeFunc fn fst eD=>
  unfold execOp;rw[dK];cases fn<;>simp only at hl<;>try(cases hl;done)
  rename_i f;split at hl
  .rename_i hz;simp only[T3,OJ]at hl;obtain⟨x',hx,hl⟩:=hl;cases hl;have hf:fst= #[]:=Array.eq_empty_of_size_eq_zero hz;subst hf;exact Lz hM hE hx h
  .cases hl
 case extract x k=>
  simp only[T3,OJ]at hl;obtain⟨x',hx,hl⟩:=hl;cases hl;unfold execOp;rw[dK];exact IJ hM hE hx h
 case slice t x lo hi mx=>
  simp only[T3]at hl;unfold execOp;rw[dK];split at hl
  .rename_i e hu;simp only[OJ]at hl;obtain⟨n,hs,x',hx,EN,ia,eH,ye,Zh,O8,hl⟩:=hl;cases hl;exact IN hM hE hu hs hx ia ye O8 h
  .rename_i hu;cases mx<;>simp only at hl
   .simp only[OJ]at hl;obtain⟨x',hx,EN,ia,eH,ye,hl⟩:=hl;cases hl;exact EM hM hE hu hx ia ye h
   .cases hl
  .cases hl
 case nilCheck x=>
  simp only[T3,OJ]at hl;obtain⟨x',hx,hl⟩:=hl;cases hl;exact EF hM hE dK hx h
 case call c=>
  obtain⟨callee,args,argTypes⟩:=c;cases callee with
  |value f=>
   exact absurd dK (uL _ _ _)
  |invoke r n=>simp only at hl;cases hl
  |builtin b=>
   cases b<;>simp only at hl<;>try(cases hl;done)
   case len=>
    simp only[T3]at hl;split at hl
    .rename_i x t eO Az;have e1:args= #[x]:=ab9 (by simpa using eO)
     have e2:argTypes= #[t]:=ab9 (by simpa using Az)
     subst e1 e2;unfold execOp;rw[dK];split at hl
     .rename_i hu;simp only[OJ]at hl;obtain⟨x',hx,hl⟩:=hl;cases hl;have:=tj (ty:=o.type) hM hE (.inl ⟨rfl,hu⟩) hx h;unfold db at this|-;simpa[resolve,invoke,builtin]using this
     .rename_i e hu;simp only[OJ]at hl;obtain⟨x',hx,hl⟩:=hl;cases hl;have:=tj (ty:=o.type) hM hE (.inr (.inl ⟨rfl,e,hu⟩)) hx h;unfold db at this|-;simpa[resolve,invoke,builtin]using this
     .rename_i kt e hu;simp only[OJ]at hl;obtain⟨x',hx,hl⟩:=hl;cases hl;have:=tj (ty:=o.type) hM hE (.inr (.inr ⟨rfl,kt,e,hu⟩)) hx h;unfold db at this|-;simpa[resolve,invoke,builtin]using this
     .cases hl
    .cases hl
   case append=>
    simp only[T3]at hl;split at hl
    .rename_i x y t t2 eO Az;have e1:args= #[x,y]:=ab9 (by simpa using eO)
     have e2:argTypes= #[t,t2]:=ab9 (by simpa using Az)
     subst e1 e2;unfold execOp;rw[dK];split at hl
     .rename_i e e2 hu Vw;simp only[OJ]at hl;obtain⟨i,hi,z,hz,hl⟩:=hl;split at hl
      .rename_i hc;obtain⟨h1,h2,h3⟩:=hc;simp only[OJ]at hl;obtain⟨x',hx,y',hy,hl⟩:=hl;cases hl;have:=I1 (ty:=o.type) hM hE hu Vw hi hz h1 h2 h3 hx hy h;unfold db at this|-;simpa[resolve,invoke,builtin]using this
      .cases hl
     .cases hl
    .cases hl
   case min=>
    simp only[T3]at hl;split at hl
    .rename_i x y eO;have e1:args= #[x,y]:=ab9 (by simpa using eO)
     subst e1;unfold execOp;rw[dK];simp only[OJ]at hl;obtain⟨x',hx,y',hy,hl⟩:=hl;cases hl;have:=rI (mx:=false) (ts:=argTypes) (ty:=o.type) hM hE hx hy h;unfold db at this|-;simpa[resolve,invoke,builtin]using this
    .cases hl
   case max=>
    simp only[T3]at hl;split at hl
    .rename_i x y eO;have e1:args= #[x,y]:=ab9 (by simpa using eO)
     subst e1;unfold execOp;rw[dK];simp only[OJ]at hl;obtain⟨x',hx,y',hy,hl⟩:=hl;cases hl;have:=rI (mx:=true) (ts:=argTypes) (ty:=o.type) hM hE hx hy h;unfold db at this|-;simpa[resolve,invoke,builtin]using this
    .cases hl
   case copy=>
    simp only[T3]at hl;split at hl
    .rename_i x y t t2 eO Az;have e1:args= #[x,y]:=ab9 (by simpa using eO)
     have e2:argTypes= #[t,t2]:=ab9 (by simpa using Az)
     subst e1 e2;unfold execOp;rw[dK];split at hl
     .rename_i e hu;simp only[OJ]at hl;obtain⟨i,hi,z,hz,hl⟩:=hl;split at hl
      .rename_i hc;simp only[OJ]at hl;obtain⟨x',hx,y',hy,hl⟩:=hl;cases hl;have:=ET (ty:=o.type) (t2:=t2) hM hE hu hi hz hc hx hy h;unfold db at this|-;simpa[resolve,invoke,builtin]using this
      .cases hl
     .cases hl
    .cases hl
   case clear=>
    simp only[T3]at hl;split at hl
    .rename_i x t eO Az;have e1:args= #[x]:=ab9 (by simpa using eO)
     have e2:argTypes= #[t]:=ab9 (by simpa using Az)
     subst e1 e2;unfold execOp;rw[dK];split at hl
     .rename_i e hu;simp only[OJ]at hl;obtain⟨i,hi,z,hz,hl⟩:=hl;split at hl
      .rename_i hc;simp only[OJ]at hl;obtain⟨x',hx,hl⟩:=hl;cases hl;have:=I2 (ty:=o.type) hM hE hu hi hz hc hx h;unfold db at this|-;simpa[resolve,invoke,builtin]using this
      .cases hl
     .cases hl
    .cases hl
   case delete=>
    simp only[T3]at hl;split at hl
    .rename_i x y t r eO Az;have e1:args= #[x,y]:=ab9 (by simpa using eO)
     have e2:argTypes[0]? =some t:=by rw[<-abD,Az];rfl
     subst e1;unfold execOp;rw[dK];split at hl
     .rename_i kt et hu;simp only[OJ]at hl;obtain⟨kk,hk,x',hx,y',hy,hl⟩:=hl;cases hl;have:=ES (t2:=o.type) (ats:=argTypes) hM hE e2 hu hk hx hy h;unfold db at this|-;simpa[resolve,invoke,builtin]using this
     .cases hl
    .cases hl
end
section
variable {P:Program}
def Cx:Exit->Option Ex
 | .normal=>some .normal
 | .exit id=>some (.exit id)
 | .ret=>some .ret
 |_=>none
def EW(N:Nat)(ρ:bG)(w:World)(ds:List Deferred):Prop:=
 ∃Ds:List Nat,ds=Ds.map (λD=>{target:= .collected D,args:= #[]})/\Ds.Nodup/\∀D,D∈Ds->N<=D/\ρ.S D/\w.heap[D]? =some (.deferred (some []))
theorem EW.nil{N:Nat}{ρ:bG}{w:World}:EW N ρ w []:=⟨[],rfl,List.nodup_nil,aC⟩
theorem EW.ext{N:Nat}{ρ U':bG}{m m':Mem}{w w':World}{ds:List Deferred}(hM:ax ρ m w)(x:Ext ρ m w U' m' w')(h:EW N ρ w ds):EW N U' w' ds:=by
 obtain⟨Ds,h1,h2,h3⟩:=h;refine⟨Ds,h1,h2,λD hD=>?_⟩
 obtain⟨g1,g2,g3⟩:=h3 D hD;exact⟨g1,x.S D g2,(x.frame D (hM.S D g2) λk hk e=>(hM.aP k hk).2 (e▸g2)).trans g3⟩
theorem EW.s{N:Nat}{ρ U':bG}{w:World}{ds:List Deferred}(hS:∀b,ρ.S b->U'.S b)(h:EW N ρ w ds):EW N U' w ds:=by obtain⟨Ds,h1,h2,h3⟩:=h;exact⟨Ds,h1,h2,λD hD=>⟨(h3 D hD).1,hS D (h3 D hD).2.1,(h3 D hD).2.2⟩⟩
structure Inv(N:Nat)(ρ0:bG)(m0:Mem)(w0:World)(st:St)(ρ:bG)(a:Act)(w:World):Prop where
 ext:Ext ρ0 m0 w0 ρ st.mem w
 mem:ax ρ st.mem w
 aX:bj ρ w st.aX a.tmps
 defers:EW N ρ w a.defers
 hN:N<=w0.heap.size
 n0:m0.length<=st.mem.length
def AA(N:Nat)(ρ0:bG)(m0:Mem)(w0:World)(K:Ex->St->Prop)(e:Exit)(a:Act)(w:World):Prop:=
 ∃ex st ρ,Cx e=some ex/\K ex st/\Inv N ρ0 m0 w0 st ρ a w
variable {N:Nat} {ρ0:bG} {m0:Mem} {w0:World}
theorem Inv.step{aX:List CV}{m m':Mem}{ρ U':bG}{a:Act}{w w':World}{d:Option Nat}{c:CV}{v:Value}(h:Inv N ρ0 m0 w0 ⟨aX,m⟩ ρ a w)(hM:ax U' m' w')(hd:bZ U' w' c v)(hx:Ext ρ m w U' m' w'){K:List CV->Prop}(hp:put d c aX K):
  ∃fD,K fD/\Inv N ρ0 m0 w0 ⟨fD,m'⟩ U' (a.put d v) w':=by
 obtain⟨fD,hK,hE,hdf⟩:=(h.aX.ext h.mem hx:bj U' w' aX a.tmps).put hd hp;refine⟨fD,hK,h.ext.trans hx,hM,hE,hdf▸h.defers.ext h.mem hx,h.hN,?_⟩;have h1:=h.n0;have h2:=h.mem.n;have h3:=hM.n;have h4:=hx.n;simp only at h1 h2|-;omega
theorem Cy{o:Oper}{i:I}{aX:List CV}{m:Mem}{ρ:bG}{a:Act}{w:World}{K:List CV->Mem->Prop}{next:Act->World->Prop}{Q:Exit->Act->World->Prop}(hl:te P o=some i)(h:Inv N ρ0 m0 w0 ⟨aX,m⟩ ρ a w)(hs:step P i aX m λv m'=>put o.dst v aX λe'=>K e' m')(hn:∀fD m' U' a' w',K fD m'->Inv N ρ0 m0 w0 ⟨fD,m'⟩ U' a' w'->next a' w'):o.wp P a w next Q:=by
 rcases Et hl with hl|rfl
 case inr=>rw[Ps]at hs;exact hs.elim
 by_cases hc:∃f xs ts,o.op= .call {callee:= .value f,args:=xs,argTypes:=ts}
 .obtain⟨f,xs,ts,dK⟩:=hc;have VT:∃f' Hb,i= .call f' Hb/\bn f=some f'/\uw xs.toList=some Hb:=by unfold vU at hl;rw[dK]at hl;simp only[T3,OJ]at hl;obtain⟨f1,hf,xs1,hx,hl⟩:=hl;cases hl;exact⟨f1,xs1,rfl,hf,hx⟩
  obtain⟨f',Hb,rfl,hf,hx⟩:=VT;have hd:=aQ h.aX hf;simp only[step]at hs;split at hs
  .rename_i g eD Zz;rw[Zz]at hd;obtain⟨L6,hv⟩:=hd;obtain⟨⟨fn,ZA,RC,Hk⟩,uL⟩:=hs;obtain⟨e1,e2⟩:=ti h.aX hx;simp only[b7,wb]at uL;have hb:fn.body≠none:=by intro e;rw[e]at RC;cases RC
   have L7:fn.name≠ "runtime.NumGoroutine" :=by intro e;rw[e]at Hk;simp at Hk
   have cN:(execOp a.eval o).run P w= .ok (.enter g (xs.map a.eval++(eD.map λid=>Value.pointer (some ⟨(ρ.aH (.aj id)).b,(ρ.aH (.aj id)).ar,none⟩)).toArray)) w:=by unfold execOp;rw[dK];simp[resolve,hv,Deferred.ofValue,invoke,callFunc,ZA,L7,hb]
   unfold Oper.wp;rw[cN,Oper.upon_enter];have AB:=uL ρ w (xs.toList.map a.eval++eD.map λid=>Value.pointer (some ⟨(ρ.aH (.aj id)).b,(ρ.aH (.aj id)).ar,none⟩)) h.mem (by simp[e1]) (λi c hi=>by
    rcases aaf i (GY aX Hb).length with aD|ek
    .rw[YN aD]at hi;obtain⟨v,vd,yd⟩:=e2 i c hi;exact⟨v,by rw[YN (by simpa[e1]using aD)];exact vd,yd⟩
    .rw[Xi ek]at hi;rw[Xi (by simpa[e1]using ek)]
     rw[Sf]at hi;cases hk:eD[i-(GY aX Hb).length]? with
     |none=>rw[hk]at hi;cases hi
     |some id=>
      rw[hk]at hi;simp only[aax,aat]at hi;subst hi;refine⟨_,by rw[Nr,<-e1,Sf,hk];rfl,L6 id (Sj hk),aC⟩)
   have eO:(xs.toList.map a.eval++eD.map λid=>Value.pointer (some ⟨(ρ.aH (.aj id)).b,(ρ.aH (.aj id)).ar,none⟩)).toArray=
     xs.map a.eval++(eD.map λid=>Value.pointer (some ⟨(ρ.aH (.aj id)).b,(ρ.aH (.aj id)).ar,none⟩)).toArray:=by
    apply ab9;simp
   rw[eO]at AB;refine AB.mono λe w' hR=>?_
   obtain⟨v,r,m',U',rfl,hK,i4,yp,tm⟩:=hR;obtain⟨fD,K2,hI⟩:=h.step (d:=o.dst) i4 yp tm hK;exact hn fD m' U' _ w' K2 hI
  .exact hs.elim
 .obtain⟨nx,v,w',cv,m',U',hr,V1,hK,i4,yp,tm⟩:=EV hl (λf xs ts e=>hc ⟨f,xs,ts,e⟩) h.mem h.aX hs
  obtain⟨fD,K2,hI⟩:=h.step (d:=o.dst) i4 yp tm hK;unfold Oper.wp;rw[hr];rcases V1 with rfl|⟨rfl,rfl⟩
  .exact hn fD m' U' _ w' K2 hI
  .exact hn fD m' U' _ w' K2 hI
theorem tu{ops:Array Oper}:∀{l:List Oper}{bS:List LO},mH P ops l=some bS->∀(o:Oper)(r:List Oper),l=o::r->∃lo lr,bS=lo::lr/\vV P ops o=some lo/\mH P ops r=some lr:=by rintro l bS h o r rfl;simp only[mH,T3,OJ]at h;obtain⟨lo,h1,lr,h2,h3⟩:=h;cases h3;exact⟨lo,lr,rfl,h1,h2⟩
theorem AD{aX:List CV}{s:Nat}{t:Bool}(h:kp aX s=aE t):aW aX s (aE t)=aX:=by
 rw[aY];rw[lS]at h;cases hg:aX[s]? with
 |none=>rw[hg]at h;cases h
 |some c=>
  rw[hg]at h;simp only[abH]at h;subst h;exact abN λi=>by
   by_cases hi:s=i
   .subst hi;rw[SC (JJ.1 hg).1,hg]
   .rw[Xg hi]
theorem wy{ops:Array Oper}{Q:Exit->Act->World->Prop}{K:List CV->Mem->Prop}(hQ:∀aX m ρ a w,K aX m->Inv N ρ0 m0 w0 ⟨aX,m⟩ ρ a w->Q .normal a w):
  ∀(l:List Oper)(k:Nat)(bS:List LO)(aX:List CV)(m:Mem)(ρ:bG)(a:Act)(w:World),ops.toList.drop k=l->mH P ops l=some bS->IA P bS K aX m->Inv N ρ0 m0 w0 ⟨aX,m⟩ ρ a w->
   wpOps P ops Q (List.range' k l.length) a w
 | [],k,bS,aX,m,ρ,a,w,hl,jL,h,hI=>by simp[mH]at jL;subst jL;exact hQ aX m ρ a w h hI
 |o::r,k,bS,aX,m,ρ,a,w,hl,jL,h,hI=>by
  obtain⟨lo,lr,rfl,h1,h2⟩:=tu jL o r rfl;have fl:ops[k]? =some o:=by
   have:(ops.toList.drop k)[0]? =some o:=by rw[hl];rfl
   simpa using this
  have hr:ops.toList.drop (k+1)=r:=by rw[<-List.tail_drop,hl];rfl
  have ih:=λaX m ρ a w=>wy hQ r (k+1) lr aX m ρ a w hr h2
  simp only[vV,T3,OJ]at h1;obtain⟨i,hi,g,hg,h1⟩:=h1;cases h1;simp only[aaj,ac1,wpOps,fl];have skip:∀(e:List CV),Inv N ρ0 m0 w0 ⟨e,m⟩ ρ a w->(put o.dst .undef e λe'=>IA P lr K e' m)->wpOps P ops Q (List.range' (k+1) r.length) (a.put o.dst Go.undef) w:=λe Yl hp=>by obtain⟨fD,K2,pO⟩:=Yl.step (d:=o.dst) (c:= .undef) (v:=Go.undef) Yl.mem rfl (Ext.refl _ _ _) hp;exact ih _ _ _ _ _ K2 pO
  have exec:∀(e:List CV),Inv N ρ0 m0 w0 ⟨e,m⟩ ρ a w->(step P i e m λv m'=>put o.dst v e λe'=>IA P lr K e' m')->o.wp P a w (wpOps P ops Q (List.range' (k+1) r.length)) Q:=λe Yl hp=>
   Cy hi Yl hp λfD m' U' a' w' K2 pO=>ih _ _ _ _ _ K2 pO
  cases L8:o.guard with
  |none=>
   rw[L8]at hg;simp[Lq]at hg;subst hg;have hw:Region.wanted o (yielded ops a.tmps)=true:=by simp[Region.wanted,L8]
   rw[if_pos hw];simp only[yQ,G4,fe]at h;exact .inl (exec aX hI h)
  |some jb=>
   obtain⟨j,jV⟩:=jb;rw[L8]at hg;simp only[Lq,T3,OJ]at hg;obtain⟨oj,ZB,s,hs,hg⟩:=hg;cases hg;have hy:yielded ops a.tmps j=match a.tmps[s]? with|some (.bool b)=>some b|_=>none:=by simp[yielded,ZB,hs];rfl
   simp only[yQ,G4]at h;split at h
   .rename_i ek;have cg:=hI.aX.get s;rw[ek]at cg;have hu:a.tmps[s]? =some Go.undef\/a.tmps[s]? =none:=by
     simp only[bZ,abO]at cg;cases ht:a.tmps[s]? with
     |none=>exact .inr rfl
     |some v=>rw[ht]at cg;simp at cg;exact .inl (by rw[cg])
    have hw:Region.wanted o (yielded ops a.tmps)=false:=by
     simp only[Region.wanted,L8,hy];rcases hu with hu|hu<;>rw[hu]<;>rfl
    rw[if_neg (by simp[hw])]
    exact skip aX hI h
   .rename_i t ek;have cg:=hI.aX.get s;rw[ek]at cg;have ht:a.tmps[s]? =some (.bool t):=by
     have:=(bC cg).1;rw[abO]at this;cases ht:a.tmps[s]? with
     |none=>rw[ht]at this;cases this
     |some v=>rw[ht]at this;simp at this;rw[this]
    have hw:Region.wanted o (yielded ops a.tmps)=(t==jV):=by simp[Region.wanted,L8,hy,ht]
    have rJ:∀b,t=b->aW aX s (aE b)=aX:=λb hb=>by subst hb;exact AD ek
    rcases cf.1 h with⟨rfl,h⟩|⟨rfl,h⟩
    .simp only[fe,rJ true rfl]at h;cases jV with
     |true=>rw[if_pos (by simp[hw])];exact .inl (exec aX hI h)
     |false=>rw[if_neg (by simp[hw])];exact skip aX hI h
    .simp only[fe,rJ false rfl]at h;cases jV with
     |false=>rw[if_pos (by simp[hw])];exact .inl (exec aX hI h)
     |true=>rw[if_neg (by simp[hw])];exact skip aX hI h
   .exact h.elim
theorem bi.dt{ρ:bG}{w:World}{pos:Option (Nat×Nat×Nat)}{c:CC}{v:Value}(h:bi ρ w pos c v):c.dt ρ.n:=by
 cases c<;>simp only[bi]at h<;>simp only[CC.dt]
 case ptr=>exact h.1
 case nv=>exact h.1
 case row=>exact h.1
 case map=>exact h.1
 case fn=>exact h.1
theorem df.dt{ρ:bG}{w:World}{r:RV}{v:Value}(h:df ρ w r v):r.dt ρ.n:=by
 cases r with
 |one c=>exact bi.dt h
 |agg cs=>
  obtain⟨vs,_,_,hc⟩:=h;intro c rA;obtain⟨i,hi⟩:=X1 rA;obtain⟨u,_,hd⟩:=hc i c hi;exact hd.dt
theorem bZ.dt{ρ:bG}{w:World}{c:CV}{v:Value}(h:bZ ρ w c v):c.dt ρ.n:=by
 cases c with
 |aF=>trivial
 |undef=>trivial
 |rv r=>exact df.dt h
 |bz rs=>
  obtain⟨vs,_,_,hc⟩:=h;intro r hr;obtain⟨i,hi⟩:=X1 hr;obtain⟨u,_,hd⟩:=hc i r hi;exact hd.dt
theorem cI.dt{ρ:bG}{w:World}{id:Nat}{b:Bk}(h:cI ρ w id b):b.dt ρ.n:=by
 cases b with
 |aR=>trivial
 |var cs=>
  obtain⟨cur,_,hc⟩:=h;intro c rA;obtain⟨i,hi⟩:=X1 rA;obtain⟨u,_,hd⟩:=hc i c hi;exact hd.dt
 |row esz elems=>
  obtain⟨h1,h2,h3,h4,h5⟩:=h;intro cs eC c rA;obtain⟨i,hi⟩:=X1 eC;obtain⟨j,hj⟩:=X1 rA;have aD:=(JJ.1 hi).1;obtain⟨cur,_,_,hc⟩:=h5 om;obtain⟨u,_,hd⟩:=hc i cs j c hi hj;exact hd.dt
 |mp es=>
  obtain⟨br,ck,_,_,hc⟩:=h;intro e he;obtain⟨i,hi⟩:=X1 he;obtain⟨e',_,_,hd⟩:=hc i e hi;exact hd.dt
 |it cur left=>trivial
 |mo esz es so=>
  obtain⟨br,ck,_,⟨_,hc⟩,_⟩:=h;intro e he;obtain⟨i,hi⟩:=X1 he;obtain⟨e',_,_,_,hd⟩:=hc i e hi;obtain⟨k,v⟩:=e;cases v with
  |d5 l=>trivial
  |row n=>exact hd.1
 |iw mid gZ seen=>exact h.1
theorem mI.get:∀{m m':Mem},mI m m'->∀(i:Nat)b',m'[i]? =some b'->b'= .aR\/m[i]? =some b'
 |_,_,.nil m,i,b',h=>by simp at h
 |_,_,.cons (b:=b) (b':=b1) (m:=m) (m':=m') h hm,i,b',hi=>by
  cases i with
  |zero=>simp at hi;subst hi;rcases h with rfl|rfl<;>simp
  |succ i=>simpa using hm.get i b' (by simpa using hi)
theorem Lu.ZC{n0:Nat}{s s':St}{ρ:bG}{w:World}(h:Lu n0 s s')(hM:ax ρ s.mem w):∀b,b∈s'.mem->b.dt s'.mem.length:=by
 rcases h.j8 with he|hi
 .intro b hb;obtain⟨i,hi⟩:=X1 hb;rcases h.mem.get i b hi with rfl|tn
  .trivial
  .have:=(hM.bk i b tn).dt;rw[he,<-hM.n];exact this
 .exact hi
theorem Lu.view{n0:Nat}{s s':St}(hw:Lu n0 s s'):View n0 s s':=by
 refine⟨hw.n0,hw.len,λρ w lY=>?_⟩
 obtain⟨hM,bX⟩:=lY.Lv hw.mem (hw.ZC lY);refine⟨{ρ with n:=s'.mem.length},hM,⟨λ_ _=>rfl,λ_ h=>h,λ_ h=>.inl h,λk hk=>⟨k,bX k hk,rfl⟩⟩,λi c hi=>?_⟩
 rcases hw.aX i c hi with rfl|⟨eH,Lw⟩
 .have aD:i<s.aX.length:=by rw[<-hw.len];exact(JJ.1 hi).1
  exact⟨_,vl aD,λ_ _=>trivial⟩
 .refine⟨c,eH,λv hd=>?_⟩
  have V2:c.dt s'.mem.length:=by
   rcases Lw with he|Lw
   .rw[he,<-lY.n];exact hd.dt
   .exact Lw
  exact hd.cut V2
theorem Inv.Lv{st jp:St}{ρ:bG}{a:Act}{w:World}(hI:Inv N ρ0 m0 w0 st ρ a w)(lY:ρ0.n=m0.length)(hw:View m0.length st jp):∃U',Inv N ρ0 m0 w0 jp U' a w:=by
 obtain⟨U',hM,hc,hd⟩:=hw.go ρ w hI.mem;refine⟨U',⟨by rw[lY,hM.n];exact hw.hn,λid hid=>(hc.aH id (by rw[<-lY];exact hid)).trans (hI.ext.aH id hid),λb hb=>hc.S b (hI.ext.S b hb),λb hb=>?_,λk hk=>?_,hI.ext.frame,hI.ext.size,hI.ext.os,hI.ext.tape,hI.ext.output⟩,hM,?_,hI.defers.s hc.S,hI.hN,hw.hn⟩
 .rcases hc.S' b hb with h|⟨k,hk,rfl⟩
  .exact hI.ext.S' b h
  .exact .inr (hI.ext.aP k hk)
 .obtain⟨k0,h0,e0⟩:=hc.aP k hk;rw[<-e0];exact hI.ext.aP k0 h0
 .refine⟨hI.aX.size.trans hw.len.symm,λi c hi=>?_⟩
  obtain⟨c0,vy,L9⟩:=hd i c hi;obtain⟨v,hv,pL⟩:=hI.aX.jD i c0 vy;exact⟨v,hv,L9 v pL⟩
end
section
variable {P:Program}
theorem ap.mono{f:Nat}{args:List CV}{m:Mem}{K K':CV->Mem->Prop}(h:ap P f args m K)(hK:∀v m',K v m'->K' v m'):ap P f args m K':=
 ⟨h.1,λρ w vs hM hl hd=>(h.2 ρ w vs hM hl hd).mono λe w'⟨v,r,m',U',he,hk,rm⟩=>⟨v,r,m',U',he,hK _ _ hk,rm⟩⟩
theorem EX{i:I}(hq:tf i=true){e:List CV}{m:Mem}{K:CV->Mem->Prop}(h:step P i e m K):
  ∃v,K v m/\∀K':CV->Mem->Prop,K' v m->step P i e m K':=by
 cases i<;>simp[tf,yO]at hq
 case load agg n a=>
  simp only[step,vN,aV,cf]at h|-;repeat' split at h
  all_goals(try exact h.elim)
  all_goals grind
 all_goals simp only[step,aV,cf]at h|-
 all_goals(repeat' split at h)
 all_goals(try exact h.elim)
 all_goals(try(exact⟨_,h,λ_ h=>h⟩))
 all_goals grind
theorem I4{i:I}(hq:yO i=true){e:List CV}{m:Mem}{K:CV->Mem->Prop}(h:step P i e m K):
  ∃v,K v m/\∀(m':Mem)(K':CV->Mem->Prop),K' v m'->step P i e m' K':=by
 cases i<;>simp[yO]at hq
 all_goals simp only[step,aV,cf]at h|-
 all_goals(repeat' split at h)
 all_goals(try exact h.elim)
 all_goals(try(exact⟨_,h,λ_ _ h=>h⟩))
 all_goals grind
theorem zc{i:I}{e:List CV}{m:Mem}{K K':CV->Mem->Prop}(h:step P i e m K)(hK:∀v m',K v m'->K' v m'):step P i e m K':=by
 cases i
 case call f args=>
  simp only[step]at h|-;split at h
  .exact h.mono hK
  .exact h.elim
 case load agg n a=>
  simp only[step,vN,aV,cf]at h|-;repeat' split at h
  all_goals(try exact h.elim)
  all_goals grind
 case len k x=>
  simp only[step,aV,cf]at h|-;repeat' split at h
  all_goals(try exact h.elim)
  all_goals grind
 all_goals simp only[step,aV,cf,gC,fe]at h|-
 all_goals(try exact hK _ _ h)
 all_goals(try(repeat' split at h))
 all_goals(try exact h.elim)
 all_goals(try exact hK _ _ h)
 all_goals grind
theorem tv{e e':List CV}:∀{xs:List X},(∀x,x∈xs->x.ev e=x.ev e')->GY e xs=GY e' xs
 | [],_=>rfl
 |x::r,h=>by simp only[GY];rw[h x aC,tv λy hy=>h y (by simp[hy])]
theorem uM{e e':List CV}:∀{ps:List (Nat×Nat×X)}{z:List CC},(∀x,x∈ps.map (λp=>p.2.2)->x.ev e=x.ev e')->ow e z ps=ow e' z ps
 | [],_,_=>rfl
 |(o,s,x)::r,z,h=>by
  simp only[ow];rw[h x aC];have ih:=λz=>uM (ps:=r) (z:=z) λy hy=>h y (by simp at hy|-;exact .inr hy)
  simp only[ih]
theorem uN{e e':List CV}{esz:Nat}:∀{ps:List (Nat×X)}{z:List (List CC)},(∀x,x∈ps.map (λp=>p.2)->x.ev e=x.ev e')->uu e esz z ps=uu e' esz z ps
 | [],_,_=>rfl
 |(i,x)::r,z,h=>by
  simp only[uu];rw[h x aC];have ih:=λz=>uN (esz:=esz) (ps:=r) (z:=z) λy hy=>h y (by simp at hy|-;exact .inr hy)
  simp only[ih]
theorem EY{i:I}{e e':List CV}{m:Mem}{K:CV->Mem->Prop}(hx:∀x,x∈i.xs->x.ev e=x.ev e')(h:step P i e m K):step P i e' m K:=by
 cases i<;>simp only[I.xs,aaB,acC,or_false,forall_eq_or_imp,forall_eq]at hx
 case build z ps=>simpa only[step,uM hx]using h
 case nw esz z len ps=>simpa only[step,uN hx]using h
 case fn f eD=>simpa only[step,tv hx]using h
 case call f args=>simpa only[step,hx.1,tv hx.2]using h
 case load agg n a=>simpa only[step,vN,hx]using h
 case jU mx xs=>
  rcases xs with _|⟨x,_|⟨y,_|⟨z,r⟩⟩⟩
  .exact h
  .exact h
  .have h1:=hx x aC;have h2:=hx y aC;simpa only[step,h1,h2]using h
  .exact h
 case nT esz x lo hi mx=>
  have Ma:∀(o:Option X)(d:Nat),(∀y,y∈o.toList->y.ev e=y.ev e')->kU e o d=kU e' o d:=λo d ho=>by
   cases o with
   |none=>rfl
   |some y=>simp only[kU];rw[ho y aC]
  have hz:∀(o:Option X),(∀y,y∈o.toList->y.ev e=y.ev e')->Er e o=Er e' o:=λo ho=>by
   cases o with
   |none=>rfl
   |some y=>simp only[Er];rw[ho y aC]
  have h1:∀d,kU e lo d=kU e' lo d:=λd=>Ma lo d λy hy=>hx.2 y (by simp[hy])
  have h2:∀d,kU e hi d=kU e' hi d:=λd=>Ma hi d λy hy=>hx.2 y (by simp[hy])
  have h3:Er e hi=Er e' hi:=hz hi λy hy=>hx.2 y (by simp[hy])
  cases mx with
  |none=>simpa only[step,hx.1,h1,h2]using h
  |some y=>
   have h4:y.ev e=y.ev e':=hx.2 y aC;simpa only[step,hx.1,h1,h2,h3,h4]using h
 case Ix x lo hi=>
  have Ma:∀(o:Option X)(d:Nat),(∀y,y∈o.toList->y.ev e=y.ev e')->kU e o d=kU e' o d:=λo d ho=>by
   cases o with
   |none=>rfl
   |some y=>simp only[kU];rw[ho y aC]
  have h1:∀d,kU e lo d=kU e' lo d:=λd=>Ma lo d λy hy=>hx.2 y (by simp[hy])
  have h2:∀d,kU e hi d=kU e' hi d:=λd=>Ma hi d λy hy=>hx.2 y (by simp[hy])
  simpa only[step,hx.1,h1,h2]using h
 case len k x=>
  match k with
  |0=>simpa only[step,hx]using h
  |1=>simpa only[step,hx]using h
  |2=>simpa only[step,hx]using h
  |k+3=>simpa only[step,hx]using h
 all_goals first
  |(simpa only[step,hx,hx.1,hx.2]using h)
  |(simpa only[step,hx]using h)
  |(simpa only[step]using h)
end
end Go.AM
