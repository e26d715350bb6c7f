/- Part 1 of 23. -/
import Derived.Calls
import Derived.Laws.AppendOwn
import Derived.Laws.Cells
import Derived.Laws.Tables
import Derived.Laws.Entries
import Derived.Below
import Derived.Deep.Quiet
set_option linter.unusedVariables false
set_option linter.unusedSimpArgs false
set_option linter.unnecessarySimpa false
set_option maxRecDepth 100000
set_option maxHeartbeats 0
namespace Go.AM
abbrev xm:=@List.getElem?_eq_getElem
abbrev Mp:=@List.getElem?_eq_some_iff
abbrev P2:=@List.length_map
abbrev Rn:=@List.getElem?_map
abbrev V3:=@Option.bind_eq_some_iff
abbrev Wm:=@List.mem_of_getElem?
abbrev XW:=@Classical.byContradiction
abbrev XX:=@Option.bind_eq_bind
abbrev aad:=@Nat.zero_le
abbrev aag:=@List.getElem?_of_mem
abbrev aah:=@Nat.le_refl
abbrev aal:=@List.getElem?_set_self
abbrev aam:=@Int.toNat_natCast
abbrev aap:=@List.getElem?_set_ne
abbrev aat:=@Nat.le_of_ble_eq_true
abbrev aaD:=@Nat.lt_or_ge
abbrev aaJ:=@Bool.and_eq_true
abbrev aaM:=@List.getElem?_append_left
abbrev aaO:=@List.getElem?_append_right
abbrev aaP:=@List.getElem_mem
abbrev aaS:=@Option.map_some
abbrev aaW:=@List.eq_nil_of_length_eq_zero
abbrev aaX:=@Nat.eq_of_beq_eq_true
abbrev aaY:=@List.length_cons
abbrev aba:=@Option.map_eq_some_iff
abbrev abg:=@List.length_take
abbrev abi:=@Option.some.injEq
abbrev abk:=@List.getElem?_eq_none
abbrev abm:=@List.mem_map
abbrev abn:=@List.length_set
abbrev abo:=@List.take_length
abbrev abq:=@Nat.not_lt_zero
abbrev abw:=@List.findIdx?_eq_some_iff_getElem
abbrev abF:=@List.mem_or_eq_of_mem_set
abbrev abG:=@Array.getElem?_eq_some_iff
abbrev abH:=@List.mem_cons
abbrev abI:=@List.getElem?_take
abbrev abJ:=@List.mem_append
abbrev abK:=@Nat.le_trans
abbrev abT:=@List.map_append
abbrev abV:=@Nat.lt_of_lt_of_le
abbrev acf:=@List.any_eq_true
abbrev acg:=@List.length_nil
abbrev ack:=@Nat.ble_eq
abbrev acn:=@List.mem_singleton
abbrev acq:=@List.ext_getElem?
abbrev acr:=@Nat.mul_le_mul_right
abbrev acs:=@List.length_append
abbrev acy:=@List.getElem?_set
abbrev acA:=@Nat.zero_add
abbrev acF:=@List.map_set
abbrev acJ:=@List.getElem?_mapIdx
abbrev acL:=@Nat.add_assoc
abbrev acO:=@Nat.eq_zero_or_pos
abbrev acP:=@List.length_drop
abbrev acQ:=@List.mem_of_mem_take
abbrev ac6:=@List.map_cons
abbrev ade:=@Nat.add_mul
abbrev adi:=@List.getElem?_drop
abbrev adk:=@List.all_eq_true
abbrev adl:=@Option.getD_some
abbrev adm:=@List.take_of_length_le
abbrev adn:=@List.append_nil
abbrev ado:=@List.length_mapIdx
abbrev adp:=@Array.getD_eq_getD_getElem?
abbrev adq:=@List.getElem?_take_of_lt
abbrev adr:=@List.take_add_one
abbrev ads:=@Array.getElem?_modify
abbrev adt:=@List.length_filter_le
abbrev adu:=@List.map_map
abbrev adv:=@Array.getElem?_eq_getElem
abbrev adw:=@Nat.blt_eq
abbrev adx:=@Bool.not_eq_true'
abbrev ady:=@List.findIdx?_eq_none_iff
abbrev adz:=@Bool.false_eq_true
abbrev adA:=@List.not_mem_nil
abbrev adB:=@Bool.or_eq_true
abbrev adC:=@List.getElem?_eq_none_iff
abbrev adD:=@List.mem_filter
abbrev adE:=@List.filter_append
abbrev adF:=@List.getElem?_cons_succ
abbrev adG:=@Nat.one_mul
abbrev adH:=@Array.ext'
abbrev adI:=@List.pairwise_iff_getElem
abbrev adJ:=@Bool.true_and
abbrev adK:=@Bool.false_or
abbrev adL:=@Array.getElem?_setIfInBounds
abbrev adM:=@List.mem_of_mem_drop
abbrev adN:=@List.append_assoc
abbrev adO:=@List.map_congr_left
abbrev adP:=@Array.length_toList
abbrev adQ:=@List.map_take
abbrev adR:=@Nat.lt_succ_self
abbrev adS:=@Bool.not_eq_true
abbrev adT:=@List.set_append_right
abbrev adU:=@List.mem_append_right
abbrev adV:=@List.drop_eq_getElem_cons
abbrev adW:=@Nat.sub_zero
abbrev adX:=@List.eq_of_mem_replicate
abbrev adY:=@List.drop_eq_nil_of_le
abbrev adZ:=@Option.some.inj
abbrev ad0:=@List.mem_iff_getElem?
abbrev ad1:=@Array.getElem?_append_left
abbrev ad3:=@Function.comp_def
abbrev ad4:=@List.mem_cons_of_mem
abbrev ad5:=@List.set_set
abbrev ad7:=@List.pairwise_cons
abbrev ad8:=@List.range_succ
abbrev ad9:=@Nat.ne_of_beq_eq_false
abbrev aea:=@Nat.sub_self
abbrev aeb:=@Array.getElem?_toList
abbrev aec:=@List.take_append_drop
abbrev aed:=@Option.getD_none
abbrev aee:=@Bool.and_eq_true_iff
abbrev aef:=@List.filter_cons
abbrev aeg:=@Array.getElem?_setIfInBounds_self_of_lt
abbrev aeh:=@List.map_drop
abbrev aei:=@List.getElem_of_mem
abbrev aek:=@List.cons.injEq
abbrev ael:=@Nat.min_eq_left
abbrev aem:=@List.nodup_cons
abbrev aen:=@List.exists_mem_of_ne_nil
abbrev aeo:=@Nat.add_zero
abbrev aep:=@Nat.mul_comm
abbrev aeq:=@Nat.beq_refl
abbrev aer:=@List.drop_zero
abbrev aes:=@List.getElem?_replicate
abbrev aeu:=@Nat.le_mul_of_pos_right
abbrev aex:=@Nat.lt_trichotomy
abbrev aez:=@Nat.lt_irrefl
abbrev aeI:=@List.any_cons
abbrev aeJ:=@List.range'_succ
abbrev aeK:=@Nat.lt_of_not_le
abbrev aeN:=@Bool.and_eq_false_iff
abbrev aeO:=@Array.getElem?_setIfInBounds_ne
abbrev aeP:=@List.nil_append
abbrev aeQ:=@Array.mem_toList_iff
abbrev aeW:=@List.map_nil
abbrev aeX:=@Bool.eq_iff_iff
abbrev aeY:=@Bool.or_eq_false_iff
abbrev ae1:=@List.mem_append_left
abbrev ae5:=@List.drop_append_of_le_length
abbrev afb:=@List.getElem?_range
abbrev afc:=@List.mem_map_of_mem
abbrev afe:=@List.length_pos_iff
abbrev aff:=@List.drop_drop
abbrev afh:=@Int.le_refl
abbrev afi:=@Array.getElem?_map
abbrev afl:=@List.find?_eq_none
abbrev afm:=@Bool.and_true
abbrev afn:=@Bool.not_true
abbrev aft:=@Int.ofNat.inj
abbrev afv:=@List.nodup_append
abbrev afw:=@List.any_eq_false
abbrev afz:=@List.filter_congr
abbrev afG:=@Nat.mod_eq_of_lt
abbrev afH:=@List.cons_append
abbrev afN:=@Nat.mul_add_mod
abbrev afO:=@Nat.sub_mul
abbrev afP:=@Nat.min_def
theorem om{p:Prop}(h:p:=by omega):p:=h
theorem aG{p:Prop}(h:p:=by simp):p:=h
end Go.AM
namespace Go.AM
inductive Dt where
 |val (v:Value)
 |sl (esz:Nat) (elems:List (List Dt))
inductive CC where
 |aL
 |ai (d:Dt)
 |ptr (id j:Nat)
 |oU (id esz i j:Nat)
 |tc (cs:List Dt)
 |row (id esz lo:Nat) (hi:Option Nat)
 |bv
 |map (id:Nat)
 |fn (f:Nat) (fc:List Nat)
 |jj (esz:Nat) (elems:List (List Dt))
inductive RV where
 |one (c:CC)
 |agg (cs:List CC)
inductive CV where
 |aL
 |undef
 |rv (r:RV)
 |bI (rs:List RV)
structure ME where
 key:Value
 val:RV
inductive Bk where
 |aE
 |var (cs:List CC)
 |row (esz:Nat) (elems:List (List CC))
 |mp (es:List ME)
abbrev Mem:=List Bk
structure St where
 ba:List CV
 mem:Mem
structure Ag where
 b:Nat
 aB:Nat
 len:Nat
 cap:Nat
inductive lA where
 |aA (id:Nat)
 |sub (id i j:Nat)
def lA.id:lA->Nat
 | .aA id=>id
 | .sub id _ _=>id
structure b9 where
 n:Nat
 aW:lA->Ag
 S:Nat->Prop
def eE:Value->Bool
 | .bool _| .int _ _| .string _| .pointer none| .nilFunc| .map none| .nilIface=>true
 |_=>false
theorem eE.one{v:Value}(h:eE v=true):v.oneCell'=true:=by
 cases v<;>simp_all[eE,Value.oneCell']
inductive dG(S:Nat->Prop)(w:World):Dt->Value->Prop
 |val (v:Value) (h:eE v=true):dG S w (.val v) v
 |no (a:Option Addr):dG S w (.val (.slice none 0 0)) (.slice a 0 0)
 |nil (esz:Nat) (a:Option Addr) (cap:Nat) (hc:cap<=maxLen):dG S w (.sl esz []) (.slice a 0 cap)
 |sl (esz:Nat) (elems:List (List Dt)) (b off cap:Nat) (u:Nat->Nat->Value) (hS:S b) (hl:elems.length<=cap) (bF:cap<=maxLen)
   (eu:∀cs,cs∈elems->cs.length=esz)
   (hc:∀i cs j d,elems[i]? =some cs->cs[j]? =some d->w.cell? ⟨b,off+i*esz+j,none⟩=some (u i j))
   (hd:∀i cs j d,elems[i]? =some cs->cs[j]? =some d->dG S w d (u i j)):
   dG S w (.sl esz elems) (.slice (some ⟨b,off,none⟩) elems.length cap)
theorem dG.one{S:Nat->Prop}{w:World}{d:Dt}{v:Value}(h:dG S w d v):v.oneCell'=true:=by
 cases h with
 |val v h=>exact eE.one h
 |no=>rfl
 |nil=>rfl
 |sl=>rfl
theorem dG.mono{S S':Nat->Prop}{w w':World}(hS:∀b,S b->S' b)(hw:∀b,S b->w'.heap[b]? =w.heap[b]?){d:Dt}{v:Value}(h:dG S w d v):dG S' w' d v:=by
 induction h with
 |val v h=>exact .val v h
 |no a=>exact .no a
 |nil esz a cap hc=>exact .nil esz a cap hc
 |sl esz elems b off cap u hb hl bF eu hc hd ih=>
  exact .sl esz elems b off cap u (hS b hb) hl bF eu
   (λi cs j d hi hj=>by rw[World.cell?_of_block (a:=⟨b,off+i*esz+j,none⟩) (hw b hb)];exact hc i cs j d hi hj) ih
def bJ(ρ:b9)(w:World)(pos:Option (Nat×Nat×Nat)):CC->Value->Prop
 | .aL,v=>v.oneCell'=true
 | .ai d,v=>dG ρ.S w d v
 | .ptr id j,v=>id<ρ.n/\v= .pointer (some ⟨(ρ.aW (.aA id)).b,(ρ.aW (.aA id)).aB+j,none⟩)
 | .oU id esz i j,v=>id<ρ.n/\v= .pointer (some ⟨(ρ.aW (.aA id)).b,(ρ.aW (.aA id)).aB+i*esz+j,none⟩)
 | .tc cs,v=>∃b off,v= .pointer (some ⟨b,off,none⟩)/\ρ.S b/\∀j d,cs[j]? =some d->∃u,w.cell? ⟨b,off+j,none⟩=some u/\dG ρ.S w d u
 | .row id esz lo hi,v=>id<ρ.n/\lo<=hi.getD (ρ.aW (.aA id)).len/\hi.getD (ρ.aW (.aA id)).len<=(ρ.aW (.aA id)).len/\(ρ.aW (.aA id)).len<=(ρ.aW (.aA id)).cap/\(ρ.aW (.aA id)).cap<=maxLen/\
   ∃a,v= .slice a (hi.getD (ρ.aW (.aA id)).len-lo) ((ρ.aW (.aA id)).cap-lo)/\(lo<(ρ.aW (.aA id)).cap->a=some ⟨(ρ.aW (.aA id)).b,(ρ.aW (.aA id)).aB+lo*esz,none⟩)
 | .bv,v=>∃a,v= .slice a 0 0
 | .map id,v=>id<ρ.n/\v= .map (some (ρ.aW (.aA id)).b)
 | .fn f fc,v=>(∀id,id∈fc->id<ρ.n)/\
   v= .func (.func f) #[] (fc.map λid=>Value.pointer (some ⟨(ρ.aW (.aA id)).b,(ρ.aW (.aA id)).aB,none⟩)).toArray
 | .jj esz elems,v=>∃id i j,pos=some (id,i,j)/\elems.length<=(ρ.aW (.sub id i j)).cap/\(ρ.aW (.sub id i j)).cap<=maxLen/\
   ∃a,v= .slice a elems.length (ρ.aW (.sub id i j)).cap/\
    (0<(ρ.aW (.sub id i j)).cap->a=some ⟨(ρ.aW (.sub id i j)).b,(ρ.aW (.sub id i j)).aB,none⟩)
theorem bJ.one{ρ:b9}{w:World}{pos:Option (Nat×Nat×Nat)}{c:CC}{v:Value}(h:bJ ρ w pos c v):v.oneCell'=true:=by
 cases c<;>simp only[bJ]at h
 case aL=>exact h
 case ai=>exact h.one
 case ptr=>rw[h.2];rfl
 case oU=>rw[h.2];rfl
 case tc=>obtain⟨_,_,rfl,_⟩:=h;rfl
 case row=>obtain⟨_,_,_,_,_,_,rfl,_⟩:=h;rfl
 case bv=>obtain⟨_,rfl⟩:=h;rfl
 case map=>rw[h.2];rfl
 case fn=>rw[h.2];rfl
 case jj=>obtain⟨_,_,_,_,_,_,_,rfl,_⟩:=h;rfl
structure j7(ρ:b9)(w:World)(U':b9)(w':World):Prop where
 n:ρ.n<=U'.n
 aW:∀k:lA,k.id<ρ.n->U'.aW k=ρ.aW k
 S:∀b,ρ.S b->U'.S b
 heap:∀b,ρ.S b->w'.heap[b]? =w.heap[b]?
theorem bJ.dg{ρ U':b9}{w w':World}{pos:Option (Nat×Nat×Nat)}(g:j7 ρ w U' w')(hp:∀id i j,pos=some (id,i,j)->id<ρ.n){c:CC}{v:Value}(h:bJ ρ w pos c v):bJ U' w' pos c v:=by
 cases c<;>simp only[bJ]at h|-
 case aL=>exact h
 case ai=>exact h.mono g.S g.heap
 case ptr id j=>rw[g.aW (.aA id) h.1];exact⟨abV h.1 g.n,h.2⟩
 case oU id _ _ _=>rw[g.aW (.aA id) h.1];exact⟨abV h.1 g.n,h.2⟩
 case tc cs=>
  obtain⟨b,off,hv,hb,hc⟩:=h;refine⟨b,off,hv,g.S b hb,λj d hj=>?_⟩
  obtain⟨u,hu,hd⟩:=hc j d hj;exact⟨u,by rw[World.cell?_of_block (a:=⟨b,off+j,none⟩) (g.heap b hb)];exact hu,hd.mono g.S g.heap⟩
 case row id _ _ _=>rw[g.aW (.aA id) h.1];exact⟨abV h.1 g.n,h.2⟩
 case bv=>exact h
 case map id=>rw[g.aW (.aA id) h.1];exact⟨abV h.1 g.n,h.2⟩
 case fn f fc=>
  refine⟨λid hid=>abV (h.1 id hid) g.n,?_⟩
  rw[h.2];congr 2;refine adO λid hid=>?_
  rw[g.aW (.aA id) (h.1 id hid)]
 case jj esz elems=>
  obtain⟨id,i,j,dQ,td⟩:=h;refine⟨id,i,j,dQ,?_⟩;rw[g.aW (.sub id i j) (hp id i j dQ)];exact td
def eU(ρ:b9)(w:World):RV->Value->Prop
 | .one c,v=>bJ ρ w .none c v
 | .agg cs,v=>∃vs:List Value,v= .agg vs.toArray/\vs.length=cs.length/\∀(i:Nat)c,cs[i]? =some c->∃u,vs[i]? =some u/\bJ ρ w .none c u
theorem eU.dg{ρ U':b9}{w w':World}(g:j7 ρ w U' w'){r:RV}{v:Value}(h:eU ρ w r v):eU U' w' r v:=by
 cases r with
 |one c=>exact bJ.dg g aG h
 |agg cs=>
  obtain⟨vs,hv,hl,hc⟩:=h;exact⟨vs,hv,hl,λi c hi=>let⟨u,hu,hd⟩:=hc i c hi;⟨u,hu,bJ.dg g aG hd⟩⟩
def cG(ρ:b9)(w:World):CV->Value->Prop
 | .aL,_=>True
 | .undef,v=>v=Go.undef
 | .rv r,v=>eU ρ w r v
 | .bI rs,v=>∃vs:List Value,v= .tuple vs.toArray/\vs.length=rs.length/\∀(i:Nat)r,rs[i]? =some r->∃u,vs[i]? =some u/\eU ρ w r u
theorem cG.dg{ρ U':b9}{w w':World}(g:j7 ρ w U' w'){c:CV}{v:Value}(h:cG ρ w c v):cG U' w' c v:=by
 cases c with
 |aL=>trivial
 |undef=>exact h
 |rv r=>exact eU.dg g h
 |bI rs=>
  obtain⟨vs,hv,hl,hc⟩:=h;exact⟨vs,hv,hl,λi c hi=>let⟨u,hu,hd⟩:=hc i c hi;⟨u,hu,eU.dg g hd⟩⟩
def nN(mk:Prop)(w:World)(b:Nat)(cur:Array Value):Prop:=
 ∃ty fr,w.heap[b]? =some (.cells cur ty fr)/\fr.1<=fr.2/\(∀i,i<cur.size->(decide (fr.1<=i)&&decide (i<fr.2))=false)/\(mk\/fr.2<=cur.size)
theorem nN.lt{mk:Prop}{w:World}{b:Nat}{cur:Array Value}(h:nN mk w b cur):b<w.heap.size:=by obtain⟨ty,fr,h,_⟩:=h;exact(abG.1 h).1
theorem nN.cell{mk:Prop}{w:World}{b:Nat}{cur:Array Value}(h:nN mk w b cur)(i:Nat):w.cell? ⟨b,i,none⟩=cur[i]? :=by obtain⟨ty,fr,h,_⟩:=h;exact cell_of_row w b i cur ty fr h
theorem nN.se{mk:Prop}{w:World}{b:Nat}{cur:Array Value}(h:nN mk w b cur){i:Nat}(hi:i<cur.size):w.frozen? ⟨b,i,none⟩=false:=by obtain⟨ty,fr,h,_,hf,_⟩:=h;simpa[World.frozen?,h]using hf i hi
theorem nN.cT{mk:Prop}{w w':World}{b:Nat}{cur:Array Value}(h:nN mk w b cur)(hb:w'.heap[b]? =w.heap[b]?):nN mk w' b cur:=by obtain⟨ty,fr,h,hf⟩:=h;exact⟨ty,fr,hb.trans h,hf⟩
theorem nN.new{mk:Prop}(w:World)(cur:Array Value)(ty:TypeId):nN mk (w.alloc (.cells cur ty)) w.heap.size cur:=
 ⟨ty,(0,0),heap_alloc_new w _,aah _,(by intro i _;simp),.inr (aad _)⟩
def Gq(ρ:b9)(w:World)(es:List ME)(fH:Array MapEntry):Prop:=
 fH.size=es.length/\∀(i:Nat)e,es[i]? =some e->∃e',fH[i]? =some e'/\e'.key=e.key/\eU ρ w e.val e'.val
def ft(ρ:b9)(w:World)(id:Nat):Bk->Prop
 | .aE=>True
 | .var cs=>∃cur,nN True w (ρ.aW (.aA id)).b cur/\∀(j:Nat)c,cs[j]? =some c->∃u,cur[(ρ.aW (.aA id)).aB+j]? =some u/\bJ ρ w .none c u
 | .row esz elems=>elems.length=(ρ.aW (.aA id)).len/\(ρ.aW (.aA id)).len<=(ρ.aW (.aA id)).cap/\(ρ.aW (.aA id)).cap<=maxLen/\(∀cs,cs∈elems->cs.length=esz)/\
   (0<(ρ.aW (.aA id)).cap->∃cur,nN (esz=1) w (ρ.aW (.aA id)).b cur/\(ρ.aW (.aA id)).aB+(ρ.aW (.aA id)).cap*esz<=cur.size/\
    ∀(i:Nat)cs(j:Nat)c,elems[i]? =some cs->cs[j]? =some c->∃u,cur[(ρ.aW (.aA id)).aB+i*esz+j]? =some u/\bJ ρ w (some (id,i,j)) c u)
 | .mp es=>∃fH clock,w.heap[(ρ.aW (.aA id)).b]? =some (.map fH clock)/\Gq ρ w es fH
def ir(m:Mem)(id i j esz:Nat)(elems:List (List Dt)):Prop:=
 ∃es rows cs,m[id]? =some (.row es rows)/\rows[i]? =some cs/\cs[j]? =some (.jj esz elems)
def B7(ρ:b9)(w:World)(l:Ag)(esz:Nat)(elems:List (List Dt)):Prop:=
 ∃cur,nN True w l.b cur/\l.aB+l.cap*esz<=cur.size/\(∀cs,cs∈elems->cs.length=esz)/\
  ∀(i:Nat)cs(j:Nat)d,elems[i]? =some cs->cs[j]? =some d->∃u,cur[l.aB+i*esz+j]? =some u/\dG ρ.S w d u
def Live(ρ:b9)(m:Mem):lA->Prop
 | .aA id=>∃bk,m[id]? =some bk/\bk≠.aE/\((∃esz elems,bk= .row esz elems)->0<(ρ.aW (.aA id)).cap)
 | .sub id i j=>(∃esz elems,ir m id i j esz elems)/\0<(ρ.aW (.sub id i j)).cap
structure aN(ρ:b9)(m:Mem)(w:World):Prop where
 n:ρ.n=m.length
 S:∀b,ρ.S b->b<w.heap.size
 aF:∀k,Live ρ m k->(ρ.aW k).b<w.heap.size/\¬ρ.S (ρ.aW k).b
 inj:∀k k',Live ρ m k->Live ρ m k'->(ρ.aW k).b=(ρ.aW k').b->k=k'
 bk:∀(id:Nat)b,m[id]? =some b->ft ρ w id b
 jj:∀id i j esz elems,ir m id i j esz elems->0<(ρ.aW (.sub id i j)).cap->B7 ρ w (ρ.aW (.sub id i j)) esz elems
theorem Live.it{ρ:b9}{m:Mem}{k:lA}(h:Live ρ m k):k.id<m.length:=by
 cases k with
 |aA id=>obtain⟨bk,h,_⟩:=h;exact(Mp.1 h).1
 |sub id i j=>obtain⟨⟨_,_,_,_,_,h,_⟩,_⟩:=h;exact(Mp.1 h).1
structure Ext(ρ:b9)(m:Mem)(w:World)(U':b9)(m':Mem)(w':World):Prop where
 n:ρ.n<=U'.n
 aW:∀id,id<ρ.n->U'.aW (.aA id)=ρ.aW (.aA id)
 S:∀b,ρ.S b->U'.S b
 S':∀b,U'.S b->ρ.S b\/w.heap.size<=b\/∃k,Live ρ m k/\(ρ.aW k).b=b
 aF:∀k,Live U' m' k->w.heap.size<=(U'.aW k).b\/∃k0,Live ρ m k0/\(ρ.aW k0).b=(U'.aW k).b
 frame:∀b,b<w.heap.size->(∀k,Live ρ m k->(ρ.aW k).b≠b)->w'.heap[b]? =w.heap[b]?
 size:w.heap.size<=w'.heap.size
 os:w'.os=w.os
 tape:w'.tape=w.tape
 output:w'.output=w.output
theorem Ext.refl(ρ:b9)(m:Mem)(w:World):Ext ρ m w ρ m w:=
 ⟨aah _,λ_ _=>rfl,λ_ h=>h,λ_ h=>.inl h,λk h=>.inr ⟨k,h,rfl⟩,λ_ _ _=>rfl,aah _,rfl,rfl,rfl⟩
theorem Ext.trans{ρ ρ1 ρ2:b9}{m m1 m2:Mem}{w w1 w2:World}(a:Ext ρ m w ρ1 m1 w1)(b:Ext ρ1 m1 w1 ρ2 m2 w2):Ext ρ m w ρ2 m2 w2 where
 n:=abK a.n b.n
 aW id h:=(b.aW id (abV h a.n)).trans (a.aW id h)
 S x h:=b.S x (a.S x h)
 S' x h:=by
  rcases b.S' x h with h|h|⟨k,hk,he⟩
  .exact a.S' x h
  .exact .inr (.inl (abK a.size h))
  .rcases a.aF k hk with h|⟨k0,h0,e0⟩
   .exact .inr (.inl (he▸h))
   .exact .inr (.inr ⟨k0,h0,e0.trans he⟩)
 aF k h:=by
  rcases b.aF k h with h|⟨k1,h1,e1⟩
  .exact .inl (abK a.size h)
  .rcases a.aF k1 h1 with h|⟨k0,h0,e0⟩
   .exact .inl (e1▸h)
   .exact .inr ⟨k0,h0,e0.trans e1⟩
 frame x hx hk:=by
  refine(b.frame x (abV hx a.size) λk1 h1 e1=>?_).trans (a.frame x hx hk)
  rcases a.aF k1 h1 with h|⟨k0,h0,e0⟩
  .omega
  .exact hk k0 h0 (e0.trans e1)
 size:=abK a.size b.size
 os:=b.os.trans a.os
 tape:=b.tape.trans a.tape
 output:=b.output.trans a.output
theorem bJ.ext{ρ U':b9}{m m':Mem}{w w':World}(hM:aN ρ m w)(x:Ext ρ m w U' m' w'){c:CC}{v:Value}(h:bJ ρ w .none c v):bJ U' w' .none c v:=by
 have hh:∀b,ρ.S b->w'.heap[b]? =w.heap[b]? :=λb hb=>x.frame b (hM.S b hb) λk hk e=>(hM.aF k hk).2 (e▸hb)
 let ρ1:b9:={n:=U'.n,aW:=λk=>match k with| .aA id=>U'.aW (.aA id)|k=>if k.id<ρ.n then ρ.aW k else U'.aW k,S:=U'.S}
 have g:j7 ρ w ρ1 w':=⟨x.n,λk hk=>by
  cases k with
  |aA id=>exact x.aW id hk
  |sub id i j=>simp only[ρ1];rw[if_pos hk],x.S,hh⟩
 have h1:=bJ.dg g aG h;cases c<;>simp only[bJ]at h1|-
 case jj=>obtain⟨_,_,_,e,_⟩:=h1;cases e
 all_goals exact h1
theorem eU.ext{ρ U':b9}{m m':Mem}{w w':World}(hM:aN ρ m w)(x:Ext ρ m w U' m' w'){r:RV}{v:Value}(h:eU ρ w r v):eU U' w' r v:=by
 cases r with
 |one c=>exact bJ.ext hM x h
 |agg cs=>
  obtain⟨vs,hv,hl,hc⟩:=h;exact⟨vs,hv,hl,λi c hi=>let⟨u,hu,hd⟩:=hc i c hi;⟨u,hu,bJ.ext hM x hd⟩⟩
theorem cG.ext{ρ U':b9}{m m':Mem}{w w':World}(hM:aN ρ m w)(x:Ext ρ m w U' m' w'){c:CV}{v:Value}(h:cG ρ w c v):cG U' w' c v:=by
 cases c with
 |aL=>trivial
 |undef=>exact h
 |rv r=>exact eU.ext hM x h
 |bI rs=>
  obtain⟨vs,hv,hl,hc⟩:=h;exact⟨vs,hv,hl,λi c hi=>let⟨u,hu,hd⟩:=hc i c hi;⟨u,hu,eU.ext hM x hd⟩⟩
end Go.AM
