/- Part 1 of 35. -/
import Derived.Calls
import Derived.Laws.AppendOwn
import Derived.Laws.Cells
import Derived.Laws.Tables
import Derived.Laws.Entries
import Derived.Below
import Derived.Deep.Quiet
set_option linter.unusedVariables false
set_option linter.unusedSimpArgs false
set_option linter.unnecessarySimpa false
set_option maxRecDepth 100000
set_option maxHeartbeats 0
namespace Go.AM
abbrev wy:=@List.getElem?_eq_getElem
abbrev Lw:=@List.getElem?_eq_some_iff
abbrev O9:=@List.length_map
abbrev Qu:=@List.getElem?_map
abbrev U2:=@Option.bind_eq_some_iff
abbrev Vm:=@List.mem_of_getElem?
abbrev WE:=@Option.bind_eq_bind
abbrev WG:=@Nat.zero_le
abbrev aah:=@Classical.byContradiction
abbrev aai:=@Nat.le_refl
abbrev aaj:=@List.getElem?_set_self
abbrev aak:=@List.getElem?_of_mem
abbrev aal:=@Int.toNat_natCast
abbrev aam:=@List.getElem?_set_ne
abbrev aav:=@Nat.le_of_ble_eq_true
abbrev aax:=@Nat.lt_or_ge
abbrev aaL:=@Bool.and_eq_true
abbrev aaR:=@List.getElem_mem
abbrev aaS:=@List.getElem?_append_right
abbrev aaW:=@List.getElem?_append_left
abbrev aaX:=@List.eq_nil_of_length_eq_zero
abbrev aa1:=@Nat.eq_of_beq_eq_true
abbrev aa2:=@List.length_cons
abbrev aa3:=@Option.map_some
abbrev aa8:=@List.length_take
abbrev abe:=@Option.some.injEq
abbrev abj:=@List.getElem?_eq_none
abbrev abl:=@List.mem_map
abbrev abt:=@List.length_set
abbrev abA:=@Option.map_eq_some_iff
abbrev abD:=@List.take_length
abbrev abE:=@Nat.not_lt_zero
abbrev abF:=@List.mem_or_eq_of_mem_set
abbrev abG:=@Array.getElem?_eq_some_iff
abbrev abH:=@List.mem_append
abbrev abI:=@List.mem_cons
abbrev abJ:=@Nat.le_trans
abbrev abK:=@List.getElem?_take
abbrev abL:=@Nat.lt_of_lt_of_le
abbrev abM:=@List.map_append
abbrev abN:=@List.findIdx?_eq_some_iff_getElem
abbrev abO:=@List.length_nil
abbrev abP:=@List.any_eq_true
abbrev abQ:=@List.mem_singleton
abbrev abR:=@Nat.ble_eq
abbrev abS:=@Nat.mul_le_mul_right
abbrev abT:=@List.length_append
abbrev abU:=@List.getElem?_set
abbrev abV:=@Nat.zero_add
abbrev abW:=@List.map_set
abbrev abX:=@Nat.add_assoc
abbrev abY:=@Nat.eq_zero_or_pos
abbrev abZ:=@List.length_drop
abbrev ab0:=@List.mem_of_mem_take
abbrev ab1:=@List.getElem?_mapIdx
abbrev ab2:=@List.map_cons
abbrev ab3:=@Nat.add_mul
abbrev ab4:=@List.ext_getElem?
abbrev ab5:=@List.getElem?_drop
abbrev ab6:=@List.all_eq_true
abbrev ab7:=@Option.getD_some
abbrev ab8:=@Array.getD_eq_getD_getElem?
abbrev ab9:=@List.append_nil
abbrev aca:=@List.getElem?_take_of_lt
abbrev acb:=@List.take_add_one
abbrev acd:=@List.length_mapIdx
abbrev ace:=@Array.getElem?_modify
abbrev acf:=@List.map_map
abbrev acg:=@Array.getElem?_eq_getElem
abbrev ach:=@List.take_of_length_le
abbrev aci:=@Nat.blt_eq
abbrev acj:=@Bool.false_eq_true
abbrev acm:=@List.not_mem_nil
abbrev acn:=@List.length_filter_le
abbrev aco:=@Bool.not_eq_true'
abbrev acp:=@Bool.or_eq_true
abbrev acq:=@List.getElem?_eq_none_iff
abbrev acr:=@List.getElem?_cons_succ
abbrev acs:=@Nat.one_mul
abbrev acu:=@Array.ext'
abbrev acv:=@List.findIdx?_eq_none_iff
abbrev acw:=@List.pairwise_iff_getElem
abbrev acx:=@List.filter_append
abbrev acz:=@Bool.false_or
abbrev acA:=@Array.getElem?_setIfInBounds
abbrev acB:=@List.mem_of_mem_drop
abbrev acC:=@List.append_assoc
abbrev acD:=@List.mem_filter
abbrev acE:=@List.map_congr_left
abbrev acF:=@Array.length_toList
abbrev acG:=@Bool.true_and
abbrev acI:=@Nat.lt_succ_self
abbrev acL:=@Bool.not_eq_true
abbrev acN:=@List.set_append_right
abbrev acW:=@List.mem_append_right
abbrev acX:=@List.drop_eq_getElem_cons
abbrev acY:=@Nat.sub_zero
abbrev ac1:=@List.eq_of_mem_replicate
abbrev ac2:=@List.drop_eq_nil_of_le
abbrev ac3:=@Option.some.inj
abbrev ac4:=@List.mem_iff_getElem?
abbrev ac5:=@Array.getElem?_append_left
abbrev ac7:=@List.map_take
abbrev ade:=@Function.comp_def
abbrev adh:=@List.mem_cons_of_mem
abbrev adl:=@List.set_set
abbrev adr:=@List.pairwise_cons
abbrev ads:=@List.range_succ
abbrev adu:=@Nat.ne_of_beq_eq_false
abbrev adv:=@Nat.sub_self
abbrev adx:=@Array.getElem?_toList
abbrev ady:=@List.take_append_drop
abbrev adB:=@Option.getD_none
abbrev adC:=@Bool.and_eq_true_iff
abbrev adD:=@Array.getElem?_setIfInBounds_self_of_lt
abbrev adK:=@List.getElem_of_mem
abbrev adL:=@List.cons.injEq
abbrev adO:=@List.nodup_cons
abbrev adR:=@List.exists_mem_of_ne_nil
abbrev adS:=@Nat.add_zero
abbrev adT:=@Nat.mul_comm
abbrev adU:=@Nat.beq_refl
abbrev adX:=@List.getElem?_replicate
abbrev adY:=@Nat.le_mul_of_pos_right
abbrev adZ:=@Nat.lt_trichotomy
abbrev ad1:=@Nat.lt_irrefl
abbrev ad5:=@List.map_drop
abbrev ad6:=@List.any_cons
abbrev ad7:=@List.range'_succ
abbrev ad8:=@List.cons_append
abbrev ad9:=@List.filter_cons
abbrev aea:=@Nat.lt_of_not_le
abbrev aeb:=@Bool.and_eq_false_iff
abbrev aec:=@Array.getElem?_setIfInBounds_ne
abbrev aed:=@List.nil_append
abbrev aee:=@Array.mem_toList_iff
abbrev aef:=@Nat.min_eq_left
abbrev aeg:=@List.map_nil
abbrev aej:=@Bool.or_eq_false_iff
abbrev aen:=@List.mem_append_left
abbrev aep:=@List.drop_append_of_le_length
abbrev aeq:=@List.getElem?_range
abbrev aer:=@List.mem_map_of_mem
abbrev aet:=@List.length_pos_iff
abbrev aeu:=@List.drop_drop
abbrev aev:=@List.drop_zero
abbrev aew:=@Int.le_refl
abbrev aex:=@Array.getElem?_map
abbrev aey:=@List.find?_eq_none
abbrev aez:=@Bool.and_true
abbrev aeA:=@Bool.not_true
abbrev aeB:=@Int.ofNat.inj
abbrev aeC:=@List.nodup_append
abbrev aeD:=@List.any_eq_false
abbrev aeO:=@List.filter_congr
abbrev aff:=@Nat.mod_eq_of_lt
abbrev afi:=@Nat.mul_add_mod
abbrev afj:=@Bool.eq_iff_iff
abbrev afn:=@Nat.sub_mul
abbrev afo:=@Nat.min_def
theorem om{p:Prop}(h:p:=by omega):p:=h
theorem aD{p:Prop}(h:p:=by simp):p:=h
end Go.AM
namespace Go.AM
inductive Dt where
 |val (v:Value)
 |sl (esz:Nat) (elems:List (List Dt))
inductive CC where
 |aH
 |ai (d:Dt)
 |ptr (id j:Nat)
 |oq (id esz i j:Nat)
 |sr (cs:List Dt)
 |row (id esz lo:Nat) (hi:Option Nat)
 |bt
 |map (id:Nat)
 |fn (f:Nat) (eG:List Nat)
 |iJ (esz:Nat) (elems:List (List Dt))
inductive RV where
 |one (c:CC)
 |agg (cs:List CC)
inductive CV where
 |aH
 |undef
 |rv (r:RV)
 |bG (rs:List RV)
structure ME where
 key:Value
 val:RV
inductive Bk where
 |aE
 |var (cs:List CC)
 |row (esz:Nat) (elems:List (List CC))
 |mp (es:List ME)
abbrev Mem:=List Bk
structure St where
 aY:List CV
 mem:Mem
structure zA where
 b:Nat
 aB:Nat
 len:Nat
 cap:Nat
inductive kN where
 |ay (id:Nat)
 |sub (id i j:Nat)
def kN.id:kN->Nat
 | .ay id=>id
 | .sub id _ _=>id
structure bX where
 n:Nat
 aV:kN->zA
 S:Nat->Prop
def dY:Value->Bool
 | .bool _| .int _ _| .string _| .pointer none| .nilFunc| .map none| .nilIface=>true
 |_=>false
theorem dY.one{v:Value}(h:dY v=true):v.oneCell'=true:=by
 cases v<;>simp_all[dY,Value.oneCell']
inductive dx(S:Nat->Prop)(w:World):Dt->Value->Prop
 |val (v:Value) (h:dY v=true):dx S w (.val v) v
 |no (a:Option Addr):dx S w (.val (.slice none 0 0)) (.slice a 0 0)
 |nil (esz:Nat) (a:Option Addr) (cap:Nat) (hc:cap<=maxLen):dx S w (.sl esz []) (.slice a 0 cap)
 |sl (esz:Nat) (elems:List (List Dt)) (b off cap:Nat) (u:Nat->Nat->Value) (hS:S b) (hl:elems.length<=cap) (bv:cap<=maxLen)
   (dQ:∀cs,cs∈elems->cs.length=esz)
   (hc:∀i cs j d,elems[i]? =some cs->cs[j]? =some d->w.cell? ⟨b,off+i*esz+j,none⟩=some (u i j))
   (hd:∀i cs j d,elems[i]? =some cs->cs[j]? =some d->dx S w d (u i j)):
   dx S w (.sl esz elems) (.slice (some ⟨b,off,none⟩) elems.length cap)
theorem dx.one{S:Nat->Prop}{w:World}{d:Dt}{v:Value}(h:dx S w d v):v.oneCell'=true:=by
 cases h with
 |val v h=>exact dY.one h
 |no=>rfl
 |nil=>rfl
 |sl=>rfl
theorem dx.mono{S S':Nat->Prop}{w w':World}(hS:∀b,S b->S' b)(hw:∀b,S b->w'.heap[b]? =w.heap[b]?){d:Dt}{v:Value}(h:dx S w d v):dx S' w' d v:=by
 induction h with
 |val v h=>exact .val v h
 |no a=>exact .no a
 |nil esz a cap hc=>exact .nil esz a cap hc
 |sl esz elems b off cap u hb hl bv dQ hc hd ih=>
  exact .sl esz elems b off cap u (hS b hb) hl bv dQ
   (λi cs j d hi hj=>by rw[World.cell?_of_block (a:=⟨b,off+i*esz+j,none⟩) (hw b hb)];exact hc i cs j d hi hj) ih
def bH(ρ:bX)(w:World)(pos:Option (Nat×Nat×Nat)):CC->Value->Prop
 | .aH,v=>v.oneCell'=true
 | .ai d,v=>dx ρ.S w d v
 | .ptr id j,v=>id<ρ.n/\v= .pointer (some ⟨(ρ.aV (.ay id)).b,(ρ.aV (.ay id)).aB+j,none⟩)
 | .oq id esz i j,v=>id<ρ.n/\v= .pointer (some ⟨(ρ.aV (.ay id)).b,(ρ.aV (.ay id)).aB+i*esz+j,none⟩)
 | .sr cs,v=>∃b off,v= .pointer (some ⟨b,off,none⟩)/\ρ.S b/\∀j d,cs[j]? =some d->∃u,w.cell? ⟨b,off+j,none⟩=some u/\dx ρ.S w d u
 | .row id esz lo hi,v=>id<ρ.n/\lo<=hi.getD (ρ.aV (.ay id)).len/\hi.getD (ρ.aV (.ay id)).len<=(ρ.aV (.ay id)).len/\(ρ.aV (.ay id)).len<=(ρ.aV (.ay id)).cap/\(ρ.aV (.ay id)).cap<=maxLen/\
   ∃a,v= .slice a (hi.getD (ρ.aV (.ay id)).len-lo) ((ρ.aV (.ay id)).cap-lo)/\(lo<(ρ.aV (.ay id)).cap->a=some ⟨(ρ.aV (.ay id)).b,(ρ.aV (.ay id)).aB+lo*esz,none⟩)
 | .bt,v=>∃a,v= .slice a 0 0
 | .map id,v=>id<ρ.n/\v= .map (some (ρ.aV (.ay id)).b)
 | .fn f eG,v=>(∀id,id∈eG->id<ρ.n)/\
   v= .func (.func f) #[] (eG.map λid=>Value.pointer (some ⟨(ρ.aV (.ay id)).b,(ρ.aV (.ay id)).aB,none⟩)).toArray
 | .iJ esz elems,v=>∃id i j,pos=some (id,i,j)/\elems.length<=(ρ.aV (.sub id i j)).cap/\(ρ.aV (.sub id i j)).cap<=maxLen/\
   ∃a,v= .slice a elems.length (ρ.aV (.sub id i j)).cap/\
    (0<(ρ.aV (.sub id i j)).cap->a=some ⟨(ρ.aV (.sub id i j)).b,(ρ.aV (.sub id i j)).aB,none⟩)
theorem bH.one{ρ:bX}{w:World}{pos:Option (Nat×Nat×Nat)}{c:CC}{v:Value}(h:bH ρ w pos c v):v.oneCell'=true:=by
 cases c<;>simp only[bH]at h
 case aH=>exact h
 case ai=>exact h.one
 case ptr=>rw[h.2];rfl
 case oq=>rw[h.2];rfl
 case sr=>obtain⟨_,_,rfl,_⟩:=h;rfl
 case row=>obtain⟨_,_,_,_,_,_,rfl,_⟩:=h;rfl
 case bt=>obtain⟨_,rfl⟩:=h;rfl
 case map=>rw[h.2];rfl
 case fn=>rw[h.2];rfl
 case iJ=>obtain⟨_,_,_,_,_,_,_,rfl,_⟩:=h;rfl
structure jC(ρ:bX)(w:World)(U':bX)(w':World):Prop where
 n:ρ.n<=U'.n
 aV:∀k:kN,k.id<ρ.n->U'.aV k=ρ.aV k
 S:∀b,ρ.S b->U'.S b
 heap:∀b,ρ.S b->w'.heap[b]? =w.heap[b]?
theorem bH.cY{ρ U':bX}{w w':World}{pos:Option (Nat×Nat×Nat)}(g:jC ρ w U' w')(hp:∀id i j,pos=some (id,i,j)->id<ρ.n){c:CC}{v:Value}(h:bH ρ w pos c v):bH U' w' pos c v:=by
 cases c<;>simp only[bH]at h|-
 case aH=>exact h
 case ai=>exact h.mono g.S g.heap
 case ptr id j=>rw[g.aV (.ay id) h.1];exact⟨abL h.1 g.n,h.2⟩
 case oq id _ _ _=>rw[g.aV (.ay id) h.1];exact⟨abL h.1 g.n,h.2⟩
 case sr cs=>
  obtain⟨b,off,hv,hb,hc⟩:=h;refine⟨b,off,hv,g.S b hb,λj d hj=>?_⟩
  obtain⟨u,hu,hd⟩:=hc j d hj;exact⟨u,by rw[World.cell?_of_block (a:=⟨b,off+j,none⟩) (g.heap b hb)];exact hu,hd.mono g.S g.heap⟩
 case row id _ _ _=>rw[g.aV (.ay id) h.1];exact⟨abL h.1 g.n,h.2⟩
 case bt=>exact h
 case map id=>rw[g.aV (.ay id) h.1];exact⟨abL h.1 g.n,h.2⟩
 case fn f eG=>
  refine⟨λid hid=>abL (h.1 id hid) g.n,?_⟩
  rw[h.2];congr 2;refine acE λid hid=>?_
  rw[g.aV (.ay id) (h.1 id hid)]
 case iJ esz elems=>
  obtain⟨id,i,j,dD,su⟩:=h;refine⟨id,i,j,dD,?_⟩;rw[g.aV (.sub id i j) (hp id i j dD)];exact su
def ep(ρ:bX)(w:World):RV->Value->Prop
 | .one c,v=>bH ρ w .none c v
 | .agg cs,v=>∃vs:List Value,v= .agg vs.toArray/\vs.length=cs.length/\∀(i:Nat)c,cs[i]? =some c->∃u,vs[i]? =some u/\bH ρ w .none c u
theorem ep.cY{ρ U':bX}{w w':World}(g:jC ρ w U' w'){r:RV}{v:Value}(h:ep ρ w r v):ep U' w' r v:=by
 cases r with
 |one c=>exact bH.cY g aD h
 |agg cs=>
  obtain⟨vs,hv,hl,hc⟩:=h;exact⟨vs,hv,hl,λi c hi=>let⟨u,hu,hd⟩:=hc i c hi;⟨u,hu,bH.cY g aD hd⟩⟩
def cw(ρ:bX)(w:World):CV->Value->Prop
 | .aH,_=>True
 | .undef,v=>v=Go.undef
 | .rv r,v=>ep ρ w r v
 | .bG rs,v=>∃vs:List Value,v= .tuple vs.toArray/\vs.length=rs.length/\∀(i:Nat)r,rs[i]? =some r->∃u,vs[i]? =some u/\ep ρ w r u
theorem cw.cY{ρ U':bX}{w w':World}(g:jC ρ w U' w'){c:CV}{v:Value}(h:cw ρ w c v):cw U' w' c v:=by
 cases c with
 |aH=>trivial
 |undef=>exact h
 |rv r=>exact ep.cY g h
 |bG rs=>
  obtain⟨vs,hv,hl,hc⟩:=h;exact⟨vs,hv,hl,λi c hi=>let⟨u,hu,hd⟩:=hc i c hi;⟨u,hu,ep.cY g hd⟩⟩
def m8(mk:Prop)(w:World)(b:Nat)(cur:Array Value):Prop:=
 ∃ty fr,w.heap[b]? =some (.cells cur ty fr)/\fr.1<=fr.2/\(∀i,i<cur.size->(decide (fr.1<=i)&&decide (i<fr.2))=false)/\(mk\/fr.2<=cur.size)
theorem m8.lt{mk:Prop}{w:World}{b:Nat}{cur:Array Value}(h:m8 mk w b cur):b<w.heap.size:=by obtain⟨ty,fr,h,_⟩:=h;exact(abG.1 h).1
theorem m8.cell{mk:Prop}{w:World}{b:Nat}{cur:Array Value}(h:m8 mk w b cur)(i:Nat):w.cell? ⟨b,i,none⟩=cur[i]? :=by obtain⟨ty,fr,h,_⟩:=h;exact cell_of_row w b i cur ty fr h
theorem m8.ry{mk:Prop}{w:World}{b:Nat}{cur:Array Value}(h:m8 mk w b cur){i:Nat}(hi:i<cur.size):w.frozen? ⟨b,i,none⟩=false:=by obtain⟨ty,fr,h,_,hf,_⟩:=h;simpa[World.frozen?,h]using hf i hi
theorem m8.cO{mk:Prop}{w w':World}{b:Nat}{cur:Array Value}(h:m8 mk w b cur)(hb:w'.heap[b]? =w.heap[b]?):m8 mk w' b cur:=by obtain⟨ty,fr,h,hf⟩:=h;exact⟨ty,fr,hb.trans h,hf⟩
theorem m8.new{mk:Prop}(w:World)(cur:Array Value)(ty:TypeId):m8 mk (w.alloc (.cells cur ty)) w.heap.size cur:=
 ⟨ty,(0,0),heap_alloc_new w _,aai _,(by intro i _;simp),.inr (WG _)⟩
def FE(ρ:bX)(w:World)(es:List ME)(fk:Array MapEntry):Prop:=
 fk.size=es.length/\∀(i:Nat)e,es[i]? =some e->∃e',fk[i]? =some e'/\e'.key=e.key/\ep ρ w e.val e'.val
def eS(ρ:bX)(w:World)(id:Nat):Bk->Prop
 | .aE=>True
 | .var cs=>∃cur,m8 True w (ρ.aV (.ay id)).b cur/\∀(j:Nat)c,cs[j]? =some c->∃u,cur[(ρ.aV (.ay id)).aB+j]? =some u/\bH ρ w .none c u
 | .row esz elems=>elems.length=(ρ.aV (.ay id)).len/\(ρ.aV (.ay id)).len<=(ρ.aV (.ay id)).cap/\(ρ.aV (.ay id)).cap<=maxLen/\(∀cs,cs∈elems->cs.length=esz)/\
   (0<(ρ.aV (.ay id)).cap->∃cur,m8 (esz=1) w (ρ.aV (.ay id)).b cur/\(ρ.aV (.ay id)).aB+(ρ.aV (.ay id)).cap*esz<=cur.size/\
    ∀(i:Nat)cs(j:Nat)c,elems[i]? =some cs->cs[j]? =some c->∃u,cur[(ρ.aV (.ay id)).aB+i*esz+j]? =some u/\bH ρ w (some (id,i,j)) c u)
 | .mp es=>∃fk clock,w.heap[(ρ.aV (.ay id)).b]? =some (.map fk clock)/\FE ρ w es fk
def gN(m:Mem)(id i j esz:Nat)(elems:List (List Dt)):Prop:=
 ∃es rows cs,m[id]? =some (.row es rows)/\rows[i]? =some cs/\cs[j]? =some (.iJ esz elems)
def Bx(ρ:bX)(w:World)(l:zA)(esz:Nat)(elems:List (List Dt)):Prop:=
 ∃cur,m8 True w l.b cur/\l.aB+l.cap*esz<=cur.size/\(∀cs,cs∈elems->cs.length=esz)/\
  ∀(i:Nat)cs(j:Nat)d,elems[i]? =some cs->cs[j]? =some d->∃u,cur[l.aB+i*esz+j]? =some u/\dx ρ.S w d u
def Live(ρ:bX)(m:Mem):kN->Prop
 | .ay id=>∃bk,m[id]? =some bk/\bk≠.aE/\((∃esz elems,bk= .row esz elems)->0<(ρ.aV (.ay id)).cap)
 | .sub id i j=>(∃esz elems,gN m id i j esz elems)/\0<(ρ.aV (.sub id i j)).cap
structure aK(ρ:bX)(m:Mem)(w:World):Prop where
 n:ρ.n=m.length
 S:∀b,ρ.S b->b<w.heap.size
 aF:∀k,Live ρ m k->(ρ.aV k).b<w.heap.size/\¬ρ.S (ρ.aV k).b
 inj:∀k k',Live ρ m k->Live ρ m k'->(ρ.aV k).b=(ρ.aV k').b->k=k'
 bk:∀(id:Nat)b,m[id]? =some b->eS ρ w id b
 iJ:∀id i j esz elems,gN m id i j esz elems->0<(ρ.aV (.sub id i j)).cap->Bx ρ w (ρ.aV (.sub id i j)) esz elems
theorem Live.gO{ρ:bX}{m:Mem}{k:kN}(h:Live ρ m k):k.id<m.length:=by
 cases k with
 |ay id=>obtain⟨bk,h,_⟩:=h;exact(Lw.1 h).1
 |sub id i j=>obtain⟨⟨_,_,_,_,_,h,_⟩,_⟩:=h;exact(Lw.1 h).1
structure Ext(ρ:bX)(m:Mem)(w:World)(U':bX)(m':Mem)(w':World):Prop where
 n:ρ.n<=U'.n
 aV:∀id,id<ρ.n->U'.aV (.ay id)=ρ.aV (.ay id)
 S:∀b,ρ.S b->U'.S b
 S':∀b,U'.S b->ρ.S b\/w.heap.size<=b\/∃k,Live ρ m k/\(ρ.aV k).b=b
 aF:∀k,Live U' m' k->w.heap.size<=(U'.aV k).b\/∃k0,Live ρ m k0/\(ρ.aV k0).b=(U'.aV k).b
 frame:∀b,b<w.heap.size->(∀k,Live ρ m k->(ρ.aV k).b≠b)->w'.heap[b]? =w.heap[b]?
 size:w.heap.size<=w'.heap.size
 os:w'.os=w.os
 tape:w'.tape=w.tape
 output:w'.output=w.output
theorem Ext.refl(ρ:bX)(m:Mem)(w:World):Ext ρ m w ρ m w:=
 ⟨aai _,λ_ _=>rfl,λ_ h=>h,λ_ h=>.inl h,λk h=>.inr ⟨k,h,rfl⟩,λ_ _ _=>rfl,aai _,rfl,rfl,rfl⟩
theorem Ext.trans{ρ ρ1 ρ2:bX}{m m1 m2:Mem}{w w1 w2:World}(a:Ext ρ m w ρ1 m1 w1)(b:Ext ρ1 m1 w1 ρ2 m2 w2):Ext ρ m w ρ2 m2 w2 where
 n:=abJ a.n b.n
 aV id h:=(b.aV id (abL h a.n)).trans (a.aV id h)
 S x h:=b.S x (a.S x h)
 S' x h:=by
  rcases b.S' x h with h|h|⟨k,hk,he⟩
  .exact a.S' x h
  .exact .inr (.inl (abJ a.size h))
  .rcases a.aF k hk with h|⟨k0,h0,e0⟩
   .exact .inr (.inl (he▸h))
   .exact .inr (.inr ⟨k0,h0,e0.trans he⟩)
 aF k h:=by
  rcases b.aF k h with h|⟨k1,h1,e1⟩
  .exact .inl (abJ a.size h)
  .rcases a.aF k1 h1 with h|⟨k0,h0,e0⟩
   .exact .inl (e1▸h)
   .exact .inr ⟨k0,h0,e0.trans e1⟩
 frame x hx hk:=by
  refine(b.frame x (abL hx a.size) λk1 h1 e1=>?_).trans (a.frame x hx hk)
  rcases a.aF k1 h1 with h|⟨k0,h0,e0⟩
  .omega
  .exact hk k0 h0 (e0.trans e1)
 size:=abJ a.size b.size
 os:=b.os.trans a.os
 tape:=b.tape.trans a.tape
 output:=b.output.trans a.output
theorem bH.ext{ρ U':bX}{m m':Mem}{w w':World}(hM:aK ρ m w)(x:Ext ρ m w U' m' w'){c:CC}{v:Value}(h:bH ρ w .none c v):bH U' w' .none c v:=by
 have hh:∀b,ρ.S b->w'.heap[b]? =w.heap[b]? :=λb hb=>x.frame b (hM.S b hb) λk hk e=>(hM.aF k hk).2 (e▸hb)
 let ρ1:bX:={n:=U'.n,aV:=λk=>match k with| .ay id=>U'.aV (.ay id)|k=>if k.id<ρ.n then ρ.aV k else U'.aV k,S:=U'.S}
 have g:jC ρ w ρ1 w':=⟨x.n,λk hk=>by
  cases k with
  |ay id=>exact x.aV id hk
  |sub id i j=>simp only[ρ1];rw[if_pos hk],x.S,hh⟩
 have h1:=bH.cY g aD h;cases c<;>simp only[bH]at h1|-
 case iJ=>obtain⟨_,_,_,e,_⟩:=h1;cases e
 all_goals exact h1
theorem ep.ext{ρ U':bX}{m m':Mem}{w w':World}(hM:aK ρ m w)(x:Ext ρ m w U' m' w'){r:RV}{v:Value}(h:ep ρ w r v):ep U' w' r v:=by
 cases r with
 |one c=>exact bH.ext hM x h
 |agg cs=>
  obtain⟨vs,hv,hl,hc⟩:=h;exact⟨vs,hv,hl,λi c hi=>let⟨u,hu,hd⟩:=hc i c hi;⟨u,hu,bH.ext hM x hd⟩⟩
theorem cw.ext{ρ U':bX}{m m':Mem}{w w':World}(hM:aK ρ m w)(x:Ext ρ m w U' m' w'){c:CV}{v:Value}(h:cw ρ w c v):cw U' w' c v:=by
 cases c with
 |aH=>trivial
 |undef=>exact h
 |rv r=>exact ep.ext hM x h
 |bG rs=>
  obtain⟨vs,hv,hl,hc⟩:=h;exact⟨vs,hv,hl,λi c hi=>let⟨u,hu,hd⟩:=hc i c hi;⟨u,hu,ep.ext hM x hd⟩⟩
end Go.AM
