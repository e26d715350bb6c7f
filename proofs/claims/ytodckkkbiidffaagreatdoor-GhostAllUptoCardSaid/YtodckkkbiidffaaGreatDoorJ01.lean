/- Part 1 of 16. -/
import Derived.Calls
import Derived.Laws.AppendOwn
import Derived.Laws.Cells
import Derived.Laws.Tables
import Derived.Laws.Entries
import Derived.Below
import Derived.Deep.Quiet
set_option linter.unusedVariables false
set_option linter.unusedSimpArgs false
set_option maxRecDepth 100000
set_option maxHeartbeats 0
namespace Go.AM
abbrev vR:=@List.getElem?_eq_getElem
abbrev Ki:=@List.getElem?_eq_some_iff
abbrev N7:=@List.length_map
abbrev Pu:=@Option.bind_eq_some_iff
abbrev Tr:=@List.getElem?_map
abbrev Tu:=@List.mem_of_getElem?
abbrev TK:=@List.getElem?_set_self
abbrev U8:=@Option.bind_eq_bind
abbrev U9:=@List.getElem?_set_ne
abbrev Yj:=@Nat.le_refl
abbrev Yl:=@Classical.byContradiction
abbrev Y5:=@List.getElem?_append_right
abbrev ZW:=@Int.toNat_natCast
abbrev aab:=@List.getElem?_of_mem
abbrev aad:=@List.getElem?_append_left
abbrev aae:=@Bool.and_eq_true
abbrev aag:=@Nat.lt_or_ge
abbrev aap:=@Nat.le_of_ble_eq_true
abbrev aaq:=@List.eq_nil_of_length_eq_zero
abbrev aar:=@List.length_cons
abbrev aau:=@Nat.eq_of_beq_eq_true
abbrev aav:=@Nat.zero_le
abbrev aay:=@List.getElem_mem
abbrev aaz:=@List.mem_map
abbrev aaA:=@Option.some.injEq
abbrev aaB:=@Option.map_eq_some_iff
abbrev aaE:=@List.length_take
abbrev aaF:=@Array.getElem?_eq_some_iff
abbrev aaG:=@Option.map_some
abbrev aaH:=@List.getElem?_eq_none
abbrev aaI:=@List.length_set
abbrev aaJ:=@Nat.lt_of_lt_of_le
abbrev aaL:=@List.mem_cons
abbrev aaQ:=@List.mem_or_eq_of_mem_set
abbrev aaR:=@List.map_cons
abbrev aaS:=@List.getElem?_take
abbrev aaV:=@List.findIdx?_eq_some_iff_getElem
abbrev aaZ:=@List.take_length
abbrev aa5:=@List.length_append
abbrev aa6:=@Nat.zero_add
abbrev aa8:=@Nat.mul_le_mul_right
abbrev aa9:=@Nat.not_lt_zero
abbrev abb:=@List.getElem?_set
abbrev abc:=@List.any_eq_true
abbrev abe:=@Nat.ble_eq
abbrev abf:=@Array.getElem?_modify
abbrev abh:=@Nat.add_assoc
abbrev abi:=@List.getElem?_drop
abbrev abk:=@Nat.add_mul
abbrev abm:=@List.length_nil
abbrev abn:=@List.map_append
abbrev abp:=@Nat.eq_zero_or_pos
abbrev abq:=@List.mem_of_mem_take
abbrev abr:=@List.all_eq_true
abbrev abu:=@List.length_drop
abbrev abv:=@List.getElem?_cons_succ
abbrev abz:=@Array.getElem?_toList
abbrev abA:=@Option.getD_some
abbrev abB:=@List.map_set
abbrev abC:=@List.ext_getElem?
abbrev abD:=@List.mem_append
abbrev abE:=@Array.getD_eq_getD_getElem?
abbrev abF:=@Nat.le_trans
abbrev abG:=@List.take_add_one
abbrev abH:=@List.nodup_cons
abbrev abI:=@Array.getElem?_eq_getElem
abbrev abJ:=@List.map_map
abbrev abK:=@Nat.blt_eq
abbrev abN:=@List.mem_cons_of_mem
abbrev abR:=@Bool.false_eq_true
abbrev abT:=@List.take_of_length_le
abbrev abU:=@Bool.not_eq_true'
abbrev abV:=@List.append_nil
abbrev abW:=@List.pairwise_iff_getElem
abbrev abY:=@Array.length_toList
abbrev abZ:=@List.getElem?_take_of_lt
abbrev ab0:=@Bool.or_eq_true
abbrev ab1:=@Array.ext'
abbrev ab2:=@List.filter_cons
abbrev ab3:=@Array.getElem?_setIfInBounds_self_of_lt
abbrev ab4:=@Nat.one_mul
abbrev ab5:=@List.mem_singleton
abbrev ab6:=@Nat.lt_succ_self
abbrev ab7:=@List.length_mapIdx
abbrev aci:=@Array.getElem?_setIfInBounds
abbrev acI:=@List.mem_of_mem_drop
abbrev acJ:=@List.getElem?_mapIdx
abbrev acK:=@List.getElem?_cons_zero
abbrev acL:=@List.mem_filter
abbrev acM:=@Array.getElem?_setIfInBounds_ne
abbrev acQ:=@List.eq_of_mem_replicate
abbrev acU:=@List.map_congr_left
abbrev acV:=@Array.getElem?_push
abbrev acW:=@Nat.sub_zero
abbrev acX:=@List.pairwise_cons
abbrev acY:=@List.length_filter_le
abbrev acZ:=@Array.getElem?_append_left
abbrev ac0:=@Bool.false_or
abbrev ac2:=@List.append_assoc
abbrev ac5:=@List.findIdx?_eq_none_iff
abbrev ac6:=@Nat.sub_self
abbrev ac8:=@Nat.add_zero
abbrev adb:=@List.not_mem_nil
abbrev ade:=@List.set_set
abbrev adf:=@List.filter_eq_self
abbrev adg:=@List.map_take
abbrev adh:=@Nat.ne_of_beq_eq_false
abbrev adj:=@Nat.lt_trichotomy
abbrev adk:=@List.take_append_drop
abbrev adl:=@Bool.and_eq_false_iff
abbrev adm:=@Option.getD_none
abbrev adn:=@Bool.and_eq_true_iff
abbrev ado:=@Bool.not_eq_true
abbrev adp:=@Prod.mk.injEq
abbrev adq:=@Int.le_refl
abbrev adr:=@List.getElem_of_mem
abbrev ads:=@Nat.min_eq_left
abbrev adt:=@List.drop_eq_getElem_cons
abbrev adu:=@List.getElem?_eq_none_iff
abbrev adv:=@List.exists_mem_of_ne_nil
abbrev adw:=@Nat.mul_comm
abbrev adx:=@List.getElem?_replicate
abbrev ady:=@Nat.le_mul_of_pos_right
abbrev adz:=@List.length_eq_zero_iff
abbrev adA:=@Function.comp_def
abbrev adB:=@List.drop_eq_nil_of_le
abbrev adC:=@Bool.true_and
abbrev adD:=@List.range'_succ
abbrev adE:=@List.take_succ_eq_append_getElem
abbrev adF:=@Nat.lt_of_not_le
abbrev adG:=@List.set_append_right
abbrev adH:=@List.range_eq_range'
abbrev adI:=@Nat.zero_mul
abbrev adJ:=@Array.mem_toList_iff
abbrev adK:=@List.map_nil
abbrev adL:=@Nat.beq_refl
abbrev adM:=@Bool.eq_iff_iff
abbrev adN:=@Option.some.inj
abbrev adO:=@List.mem_append_left
abbrev adP:=@List.mem_map_of_mem
abbrev adQ:=@List.length_pos_iff
abbrev adR:=@List.drop_zero
abbrev adS:=@Array.getElem?_map
abbrev adT:=@List.find?_eq_none
abbrev adU:=@List.filter_append
abbrev adV:=@List.set_cons_zero
abbrev adW:=@List.mem_cons_self
abbrev adX:=@Bool.not_true
abbrev adZ:=@List.map_drop
abbrev ad0:=@List.filter_congr
abbrev ad4:=@Nat.mod_eq_of_lt
abbrev ad5:=@List.cons_append
abbrev aea:=@List.cons.injEq
abbrev aeb:=@Nat.mul_add_mod
abbrev aec:=@List.nil_append
abbrev aed:=@Nat.sub_mul
abbrev aeh:=@Nat.min_def
theorem om{p:Prop}(h:p:=by omega):p:=h
theorem aC{p:Prop}(h:p:=by simp):p:=h
end Go.AM
namespace Go.AM
inductive Dt where
 |val (v:Value)
 |sl (esz:Nat) (elems:List (List Dt))
inductive CC where
 |aH
 |ah (d:Dt)
 |ptr (id j:Nat)
 |nH (id esz i j:Nat)
 |rK (cs:List Dt)
 |row (id esz lo:Nat) (hi:Option Nat)
 |aM
 |map (id:Nat)
 |fn (f:Nat) (eM:List Nat)
 |ei (esz:Nat) (elems:List (List Dt))
inductive RV where
 |one (c:CC)
 |agg (cs:List CC)
inductive CV where
 |aH
 |undef
 |rv (r:RV)
 |bx (rs:List RV)
structure ME where
 key:Value
 val:RV
inductive MV where
 |ei (elems:List (List Dt))
 |row (n:Nat)
structure MO where
 key:Value
 val:MV
def MO.cc(esz:Nat)(e:MO):CC:=match e.val with| .ei l=>.ei esz l| .row n=>.row n esz 0 none
inductive Bk where
 |aU
 |var (cs:List CC)
 |row (esz:Nat) (elems:List (List CC))
 |mp (es:List ME)
 |it (cur left:List (Value×Value))
 |mo (esz:Nat) (es:List MO) (so:Option (List Nat×Nat))
 |iw (mid ip:Nat) (seen:List Nat)
abbrev Mem:=List Bk
structure St where
 aZ:List CV
 mem:Mem
structure wj where
 b:Nat
 ar:Nat
 len:Nat
 cap:Nat
inductive gv where
 |aj (id:Nat)
 |sub (id i j:Nat)
def gv.id:gv->Nat
 | .aj id=>id
 | .sub id _ _=>id
structure bJ where
 n:Nat
 aI:gv->wj
 S:Nat->Prop
def cu:Value->Bool
 | .bool _| .int _ _| .string _| .pointer none| .nilFunc| .map none| .nilIface=>true
 |_=>false
theorem cu.one{v:Value}(h:cu v=true):v.oneCell'=true:=by
 cases v<;>simp_all[cu,Value.oneCell']
inductive dj(S:Nat->Prop)(w:World):Dt->Value->Prop
 |val (v:Value) (h:cu v=true):dj S w (.val v) v
 |no (a:Option Addr):dj S w (.val (.slice none 0 0)) (.slice a 0 0)
 |nil (esz:Nat) (a:Option Addr) (cap:Nat) (hc:cap<=maxLen):dj S w (.sl esz []) (.slice a 0 cap)
 |sl (esz:Nat) (elems:List (List Dt)) (b off cap:Nat) (u:Nat->Nat->Value) (hS:S b) (hl:elems.length<=cap) (bg:cap<=maxLen)
   (dq:∀cs,cs∈elems->cs.length=esz)
   (hc:∀i cs j d,elems[i]? =some cs->cs[j]? =some d->w.cell? ⟨b,off+i*esz+j,none⟩=some (u i j))
   (hd:∀i cs j d,elems[i]? =some cs->cs[j]? =some d->dj S w d (u i j)):
   dj S w (.sl esz elems) (.slice (some ⟨b,off,none⟩) elems.length cap)
theorem dj.one{S:Nat->Prop}{w:World}{d:Dt}{v:Value}(h:dj S w d v):v.oneCell'=true:=by
 cases h with
 |val v h=>exact cu.one h
 |no=>rfl
 |nil=>rfl
 |sl=>rfl
theorem dj.mono{S S':Nat->Prop}{w w':World}(hS:∀b,S b->S' b)(hw:∀b,S b->w'.heap[b]? =w.heap[b]?){d:Dt}{v:Value}(h:dj S w d v):dj S' w' d v:=by
 induction h with
 |val v h=>exact .val v h
 |no a=>exact .no a
 |nil esz a cap hc=>exact .nil esz a cap hc
 |sl esz elems b off cap u hb hl bg dq hc hd ih=>
  exact .sl esz elems b off cap u (hS b hb) hl bg dq
   (λi cs j d hi hj=>by rw[World.cell?_of_block (a:=⟨b,off+i*esz+j,none⟩) (hw b hb)];exact hc i cs j d hi hj) ih
def bm(ρ:bJ)(w:World)(pos:Option (Nat×Nat×Nat)):CC->Value->Prop
 | .aH,v=>v.oneCell'=true
 | .ah d,v=>dj ρ.S w d v
 | .ptr id j,v=>id<ρ.n/\v= .pointer (some ⟨(ρ.aI (.aj id)).b,(ρ.aI (.aj id)).ar+j,none⟩)
 | .nH id esz i j,v=>id<ρ.n/\v= .pointer (some ⟨(ρ.aI (.aj id)).b,(ρ.aI (.aj id)).ar+i*esz+j,none⟩)
 | .rK cs,v=>∃b off,v= .pointer (some ⟨b,off,none⟩)/\ρ.S b/\∀j d,cs[j]? =some d->∃u,w.cell? ⟨b,off+j,none⟩=some u/\dj ρ.S w d u
 | .row id esz lo hi,v=>id<ρ.n/\lo<=hi.getD (ρ.aI (.aj id)).len/\hi.getD (ρ.aI (.aj id)).len<=(ρ.aI (.aj id)).len/\(ρ.aI (.aj id)).len<=(ρ.aI (.aj id)).cap/\(ρ.aI (.aj id)).cap<=maxLen/\
   ∃a,v= .slice a (hi.getD (ρ.aI (.aj id)).len-lo) ((ρ.aI (.aj id)).cap-lo)/\(lo<(ρ.aI (.aj id)).cap->a=some ⟨(ρ.aI (.aj id)).b,(ρ.aI (.aj id)).ar+lo*esz,none⟩)
 | .aM,v=>∃a,v= .slice a 0 0
 | .map id,v=>id<ρ.n/\v= .map (some (ρ.aI (.aj id)).b)
 | .fn f eM,v=>(∀id,id∈eM->id<ρ.n)/\
   v= .func (.func f) #[] (eM.map λid=>Value.pointer (some ⟨(ρ.aI (.aj id)).b,(ρ.aI (.aj id)).ar,none⟩)).toArray
 | .ei esz elems,v=>∃id i j,pos=some (id,i,j)/\elems.length<=(ρ.aI (.sub id i j)).cap/\(ρ.aI (.sub id i j)).cap<=maxLen/\
   ∃a,v= .slice a elems.length (ρ.aI (.sub id i j)).cap/\
    (0<(ρ.aI (.sub id i j)).cap->a=some ⟨(ρ.aI (.sub id i j)).b,(ρ.aI (.sub id i j)).ar,none⟩)
theorem bm.one{ρ:bJ}{w:World}{pos:Option (Nat×Nat×Nat)}{c:CC}{v:Value}(h:bm ρ w pos c v):v.oneCell'=true:=by
 cases c<;>simp only[bm]at h
 case aH=>exact h
 case ah=>exact h.one
 case ptr=>rw[h.2];rfl
 case nH=>rw[h.2];rfl
 case rK=>obtain⟨_,_,rfl,_⟩:=h;rfl
 case row=>obtain⟨_,_,_,_,_,_,rfl,_⟩:=h;rfl
 case aM=>obtain⟨_,rfl⟩:=h;rfl
 case map=>rw[h.2];rfl
 case fn=>rw[h.2];rfl
 case ei=>obtain⟨_,_,_,_,_,_,_,rfl,_⟩:=h;rfl
structure iM(ρ:bJ)(w:World)(U':bJ)(w':World):Prop where
 n:ρ.n<=U'.n
 aI:∀k:gv,k.id<ρ.n->U'.aI k=ρ.aI k
 S:∀b,ρ.S b->U'.S b
 heap:∀b,ρ.S b->w'.heap[b]? =w.heap[b]?
theorem bm.cn{ρ U':bJ}{w w':World}{pos:Option (Nat×Nat×Nat)}(g:iM ρ w U' w')(hp:∀id i j,pos=some (id,i,j)->id<ρ.n){c:CC}{v:Value}(h:bm ρ w pos c v):bm U' w' pos c v:=by
 cases c<;>simp only[bm]at h|-
 case aH=>exact h
 case ah=>exact h.mono g.S g.heap
 case ptr id j=>rw[g.aI (.aj id) h.1];exact⟨aaJ h.1 g.n,h.2⟩
 case nH id _ _ _=>rw[g.aI (.aj id) h.1];exact⟨aaJ h.1 g.n,h.2⟩
 case rK cs=>
  obtain⟨b,off,hv,hb,hc⟩:=h;refine⟨b,off,hv,g.S b hb,λj d hj=>?_⟩
  obtain⟨u,hu,hd⟩:=hc j d hj;exact⟨u,by rw[World.cell?_of_block (a:=⟨b,off+j,none⟩) (g.heap b hb)];exact hu,hd.mono g.S g.heap⟩
 case row id _ _ _=>rw[g.aI (.aj id) h.1];exact⟨aaJ h.1 g.n,h.2⟩
 case aM=>exact h
 case map id=>rw[g.aI (.aj id) h.1];exact⟨aaJ h.1 g.n,h.2⟩
 case fn f eM=>
  refine⟨λid hid=>aaJ (h.1 id hid) g.n,?_⟩
  rw[h.2];congr 2;refine acU λid hid=>?_
  rw[g.aI (.aj id) (h.1 id hid)]
 case ei esz elems=>
  obtain⟨id,i,j,cJ,rL⟩:=h;refine⟨id,i,j,cJ,?_⟩;rw[g.aI (.sub id i j) (hp id i j cJ)];exact rL
def dk(ρ:bJ)(w:World):RV->Value->Prop
 | .one c,v=>bm ρ w .none c v
 | .agg cs,v=>∃vs:List Value,v= .agg vs.toArray/\vs.length=cs.length/\∀(i:Nat)c,cs[i]? =some c->∃u,vs[i]? =some u/\bm ρ w .none c u
theorem dk.cn{ρ U':bJ}{w w':World}(g:iM ρ w U' w'){r:RV}{v:Value}(h:dk ρ w r v):dk U' w' r v:=by
 cases r with
 |one c=>exact bm.cn g aC h
 |agg cs=>
  obtain⟨vs,hv,hl,hc⟩:=h;exact⟨vs,hv,hl,λi c hi=>let⟨u,hu,hd⟩:=hc i c hi;⟨u,hu,bm.cn g aC hd⟩⟩
def cf(ρ:bJ)(w:World):CV->Value->Prop
 | .aH,_=>True
 | .undef,v=>v=Go.undef
 | .rv r,v=>dk ρ w r v
 | .bx rs,v=>∃vs:List Value,v= .tuple vs.toArray/\vs.length=rs.length/\∀(i:Nat)r,rs[i]? =some r->∃u,vs[i]? =some u/\dk ρ w r u
theorem cf.cn{ρ U':bJ}{w w':World}(g:iM ρ w U' w'){c:CV}{v:Value}(h:cf ρ w c v):cf U' w' c v:=by
 cases c with
 |aH=>trivial
 |undef=>exact h
 |rv r=>exact dk.cn g h
 |bx rs=>
  obtain⟨vs,hv,hl,hc⟩:=h;exact⟨vs,hv,hl,λi c hi=>let⟨u,hu,hd⟩:=hc i c hi;⟨u,hu,dk.cn g hd⟩⟩
def mE(mk:Prop)(w:World)(b:Nat)(cur:Array Value):Prop:=
 ∃ty fr,w.heap[b]? =some (.cells cur ty fr)/\fr.1<=fr.2/\(∀i,i<cur.size->(decide (fr.1<=i)&&decide (i<fr.2))=false)/\(mk\/fr.2<=cur.size)
theorem mE.lt{mk:Prop}{w:World}{b:Nat}{cur:Array Value}(h:mE mk w b cur):b<w.heap.size:=by obtain⟨ty,fr,h,_⟩:=h;exact(aaF.1 h).1
theorem mE.cell{mk:Prop}{w:World}{b:Nat}{cur:Array Value}(h:mE mk w b cur)(i:Nat):w.cell? ⟨b,i,none⟩=cur[i]? :=by obtain⟨ty,fr,h,_⟩:=h;exact cell_of_row w b i cur ty fr h
theorem mE.qJ{mk:Prop}{w:World}{b:Nat}{cur:Array Value}(h:mE mk w b cur){i:Nat}(hi:i<cur.size):w.frozen? ⟨b,i,none⟩=false:=by obtain⟨ty,fr,h,_,hf,_⟩:=h;simpa[World.frozen?,h]using hf i hi
theorem mE.dH{mk:Prop}{w w':World}{b:Nat}{cur:Array Value}(h:mE mk w b cur)(hb:w'.heap[b]? =w.heap[b]?):mE mk w' b cur:=by obtain⟨ty,fr,h,hf⟩:=h;exact⟨ty,fr,hb.trans h,hf⟩
theorem mE.new{mk:Prop}(w:World)(cur:Array Value)(ty:TypeId):mE mk (w.alloc (.cells cur ty)) w.heap.size cur:=
 ⟨ty,(0,0),heap_alloc_new w _,Yj _,(by intro i _;simp),.inr (aav _)⟩
def AB(ρ:bJ)(w:World)(es:List ME)(bt:Array MapEntry):Prop:=
 bt.size=es.length/\∀(i:Nat)e,es[i]? =some e->∃e',bt[i]? =some e'/\e'.key=e.key/\dk ρ w e.val e'.val
def ic(bt:Array MapEntry)(clock:Nat):Prop:=(∀e,e∈bt.toList->e.born<clock)/\(bt.toList.map (·.born)).Nodup
def Wk(seen:Array Nat)(bt:Array MapEntry)(cur left:List (Value×Value)):Prop:=
 ((bt.filter λe=>!seen.contains e.born).toList.map λe=>(e.key,e.val))=left/\(∀p,p∈cur->∃(e:MapEntry)(L4:Array Nat),e∈bt.toList/\seen=L4.push e.born/\(e.key,e.val)=p)/\∀p,p∈left\/p∈cur->cu p.1=true/\cu p.2=true
def cK(ρ:bJ)(w:World)(id:Nat):Bk->Prop
 | .aU=>True
 | .var cs=>∃cur,mE True w (ρ.aI (.aj id)).b cur/\∀(j:Nat)c,cs[j]? =some c->∃u,cur[(ρ.aI (.aj id)).ar+j]? =some u/\bm ρ w .none c u
 | .row esz elems=>elems.length=(ρ.aI (.aj id)).len/\(ρ.aI (.aj id)).len<=(ρ.aI (.aj id)).cap/\(ρ.aI (.aj id)).cap<=maxLen/\(∀cs,cs∈elems->cs.length=esz)/\
   (0<(ρ.aI (.aj id)).cap->∃cur,mE (esz=1) w (ρ.aI (.aj id)).b cur/\(ρ.aI (.aj id)).ar+(ρ.aI (.aj id)).cap*esz<=cur.size/\
    ∀(i:Nat)cs(j:Nat)c,elems[i]? =some cs->cs[j]? =some c->∃u,cur[(ρ.aI (.aj id)).ar+i*esz+j]? =some u/\bm ρ w (some (id,i,j)) c u)
 | .mp es=>∃bt clock,(w.heap[(ρ.aI (.aj id)).b]? =some (.map bt clock)/\ic bt clock)/\AB ρ w es bt
 | .it cur left=>∃mb seen clock bt,w.heap[(ρ.aI (.aj id)).b]? =some (.mapIter (some mb) clock seen clock)/\(ρ.aI (.aj id)).ar=0/\ρ.S mb/\w.heap[mb]? =some (.map bt clock)/\ic bt clock/\Wk seen bt cur left
 | .mo esz es so=>∃bt clock,(w.heap[(ρ.aI (.aj id)).b]? =some (.map bt clock)/\ic bt clock)/\(bt.size=es.length/\∀(i:Nat)e,es[i]? =some e->∃e',bt[i]? =some e'/\e'.key=e.key/\cu e.key=true/\bm ρ w (some (id,i,0)) (e.cc esz) e'.val)/\
   ∀st ip,so=some (st,ip)->clock=ip/\bt.toList.map (·.born)=st
 | .iw mid ip seen=>mid<ρ.n/\(ρ.aI (.aj id)).ar=0/\∃s:Array Nat,w.heap[(ρ.aI (.aj id)).b]? =some (.mapIter (some (ρ.aI (.aj mid)).b) ip s ip)/\s.toList.reverse=seen
inductive qk:Bk->Nat->Nat->Nat->List (List Dt)->Prop
 |row {es:Nat} {rows:List (List CC)} {cs:List CC} {i j esz:Nat} {elems:List (List Dt)} (hi:rows[i]? =some cs) (hj:cs[j]? =some (.ei esz elems)):qk (.row es rows) i j esz elems
 |mo {esz:Nat} {es:List MO} {so:Option (List Nat×Nat)} {i:Nat} {k:Value} {elems:List (List Dt)} (hi:es[i]? =some ⟨k,.ei elems⟩):qk (.mo esz es so) i 0 esz elems
theorem qk.yL{es:Nat}{rows:List (List CC)}{i j s:Nat}{e:List (List Dt)}(h:qk (.row es rows) i j s e):∃cs,rows[i]? =some cs/\cs[j]? =some (.ei s e):=by
 cases h with
 |row hi hj=>exact⟨_,hi,hj⟩
theorem qk.Sz{s0:Nat}{es:List MO}{so:Option (List Nat×Nat)}{i j s:Nat}{e:List (List Dt)}(h:qk (.mo s0 es so) i j s e):∃k,es[i]? =some ⟨k,.ei e⟩/\j=0/\s=s0:=by
 cases h with
 |mo hi=>exact⟨_,hi,rfl,rfl⟩
def dZ(m:Mem)(id i j esz:Nat)(elems:List (List Dt)):Prop:=
 ∃bk,m[id]? =some bk/\qk bk i j esz elems
def qK(ρ:bJ)(w:World)(l:wj)(esz:Nat)(elems:List (List Dt)):Prop:=
 ∃cur,mE (esz=1) w l.b cur/\l.ar+l.cap*esz<=cur.size/\(∀cs,cs∈elems->cs.length=esz)/\
  ∀(i:Nat)cs(j:Nat)d,elems[i]? =some cs->cs[j]? =some d->∃u,cur[l.ar+i*esz+j]? =some u/\dj ρ.S w d u
def Live(ρ:bJ)(m:Mem):gv->Prop
 | .aj id=>∃bk,m[id]? =some bk/\bk≠.aU/\((∃esz elems,bk= .row esz elems)->0<(ρ.aI (.aj id)).cap)
 | .sub id i j=>(∃esz elems,dZ m id i j esz elems)/\0<(ρ.aI (.sub id i j)).cap
structure aA(ρ:bJ)(m:Mem)(w:World):Prop where
 n:ρ.n=m.length
 S:∀b,ρ.S b->b<w.heap.size
 aO:∀k,Live ρ m k->(ρ.aI k).b<w.heap.size/\¬ρ.S (ρ.aI k).b
 inj:∀k k',Live ρ m k->Live ρ m k'->(ρ.aI k).b=(ρ.aI k').b->k=k'
 bk:∀(id:Nat)b,m[id]? =some b->cK ρ w id b
 ei:∀id i j esz elems,dZ m id i j esz elems->0<(ρ.aI (.sub id i j)).cap->qK ρ w (ρ.aI (.sub id i j)) esz elems
theorem Live.eT{ρ:bJ}{m:Mem}{k:gv}(h:Live ρ m k):k.id<m.length:=by
 cases k with
 |aj id=>obtain⟨bk,h,_⟩:=h;exact(Ki.1 h).1
 |sub id i j=>obtain⟨⟨_,_,_,h,_⟩,_⟩:=h;exact(Ki.1 h).1
structure Ext(ρ:bJ)(m:Mem)(w:World)(U':bJ)(m':Mem)(w':World):Prop where
 n:ρ.n<=U'.n
 aI:∀id,id<ρ.n->U'.aI (.aj id)=ρ.aI (.aj id)
 S:∀b,ρ.S b->U'.S b
 S':∀b,U'.S b->ρ.S b\/w.heap.size<=b\/∃k,Live ρ m k/\(ρ.aI k).b=b
 aO:∀k,Live U' m' k->w.heap.size<=(U'.aI k).b\/∃k0,Live ρ m k0/\(ρ.aI k0).b=(U'.aI k).b
 frame:∀b,b<w.heap.size->(∀k,Live ρ m k->(ρ.aI k).b≠b)->w'.heap[b]? =w.heap[b]?
 size:w.heap.size<=w'.heap.size
 os:w'.os=w.os
 tape:w'.tape=w.tape
 output:w'.output=w.output
theorem Ext.refl(ρ:bJ)(m:Mem)(w:World):Ext ρ m w ρ m w:=
 ⟨Yj _,λ_ _=>rfl,λ_ h=>h,λ_ h=>.inl h,λk h=>.inr ⟨k,h,rfl⟩,λ_ _ _=>rfl,Yj _,rfl,rfl,rfl⟩
theorem Ext.trans{ρ ρ1 ρ2:bJ}{m m1 m2:Mem}{w w1 w2:World}(a:Ext ρ m w ρ1 m1 w1)(b:Ext ρ1 m1 w1 ρ2 m2 w2):Ext ρ m w ρ2 m2 w2 where
 n:=abF a.n b.n
 aI id h:=(b.aI id (aaJ h a.n)).trans (a.aI id h)
 S x h:=b.S x (a.S x h)
 S' x h:=by
  rcases b.S' x h with h|h|⟨k,hk,he⟩
  .exact a.S' x h
  .exact .inr (.inl (abF a.size h))
  .rcases a.aO k hk with h|⟨k0,h0,e0⟩
   .exact .inr (.inl (he▸h))
   .exact .inr (.inr ⟨k0,h0,e0.trans he⟩)
 aO k h:=by
  rcases b.aO k h with h|⟨k1,h1,e1⟩
  .exact .inl (abF a.size h)
  .rcases a.aO k1 h1 with h|⟨k0,h0,e0⟩
   .exact .inl (e1▸h)
   .exact .inr ⟨k0,h0,e0.trans e1⟩
 frame x hx hk:=by
  refine(b.frame x (aaJ hx a.size) λk1 h1 e1=>?_).trans (a.frame x hx hk)
  rcases a.aO k1 h1 with h|⟨k0,h0,e0⟩
  .omega
  .exact hk k0 h0 (e0.trans e1)
 size:=abF a.size b.size
 os:=b.os.trans a.os
 tape:=b.tape.trans a.tape
 output:=b.output.trans a.output
theorem bm.ext{ρ U':bJ}{m m':Mem}{w w':World}(hM:aA ρ m w)(x:Ext ρ m w U' m' w'){c:CC}{v:Value}(h:bm ρ w .none c v):bm U' w' .none c v:=by
 have hh:∀b,ρ.S b->w'.heap[b]? =w.heap[b]? :=λb hb=>x.frame b (hM.S b hb) λk hk e=>(hM.aO k hk).2 (e▸hb)
 let ρ1:bJ:={n:=U'.n,aI:=λk=>match k with| .aj id=>U'.aI (.aj id)|k=>if k.id<ρ.n then ρ.aI k else U'.aI k,S:=U'.S}
 have g:iM ρ w ρ1 w':=⟨x.n,λk hk=>by
  cases k with
  |aj id=>exact x.aI id hk
  |sub id i j=>simp only[ρ1];rw[if_pos hk],x.S,hh⟩
 have h1:=bm.cn g aC h;cases c<;>simp only[bm]at h1|-
 case ei=>obtain⟨_,_,_,e,_⟩:=h1;cases e
 all_goals exact h1
theorem dk.ext{ρ U':bJ}{m m':Mem}{w w':World}(hM:aA ρ m w)(x:Ext ρ m w U' m' w'){r:RV}{v:Value}(h:dk ρ w r v):dk U' w' r v:=by
 cases r with
 |one c=>exact bm.ext hM x h
 |agg cs=>
  obtain⟨vs,hv,hl,hc⟩:=h;exact⟨vs,hv,hl,λi c hi=>let⟨u,hu,hd⟩:=hc i c hi;⟨u,hu,bm.ext hM x hd⟩⟩
theorem cf.ext{ρ U':bJ}{m m':Mem}{w w':World}(hM:aA ρ m w)(x:Ext ρ m w U' m' w'){c:CV}{v:Value}(h:cf ρ w c v):cf U' w' c v:=by
 cases c with
 |aH=>trivial
 |undef=>exact h
 |rv r=>exact dk.ext hM x h
 |bx rs=>
  obtain⟨vs,hv,hl,hc⟩:=h;exact⟨vs,hv,hl,λi c hi=>let⟨u,hu,hd⟩:=hc i c hi;⟨u,hu,dk.ext hM x hd⟩⟩
end Go.AM
