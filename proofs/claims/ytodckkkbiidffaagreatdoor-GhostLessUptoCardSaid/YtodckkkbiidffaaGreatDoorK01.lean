/- Part 1 of 16. -/
import Derived.Calls
import Derived.Laws.AppendOwn
import Derived.Laws.Cells
import Derived.Laws.Tables
import Derived.Laws.Entries
import Derived.Below
import Derived.Deep.Quiet
set_option linter.unusedVariables false
set_option linter.unusedSimpArgs false
set_option maxRecDepth 100000
set_option maxHeartbeats 0
namespace Go.AM
abbrev vU:=@List.getElem?_eq_getElem
abbrev Km:=@List.getElem?_eq_some_iff
abbrev N7:=@Option.bind_eq_some_iff
abbrev Pj:=@List.length_map
abbrev Tm:=@List.getElem?_map
abbrev Tp:=@List.mem_of_getElem?
abbrev TH:=@List.getElem?_set_self
abbrev U6:=@Option.bind_eq_bind
abbrev U7:=@List.getElem?_set_ne
abbrev Yk:=@Classical.byContradiction
abbrev Ym:=@Nat.le_refl
abbrev Y6:=@Int.toNat_natCast
abbrev ZZ:=@List.getElem?_append_right
abbrev aaa:=@List.getElem?_of_mem
abbrev aab:=@Bool.and_eq_true
abbrev aac:=@List.getElem?_append_left
abbrev aad:=@Nat.le_of_ble_eq_true
abbrev aaf:=@Nat.lt_or_ge
abbrev aag:=@List.eq_nil_of_length_eq_zero
abbrev aai:=@Nat.eq_of_beq_eq_true
abbrev aaj:=@Nat.zero_le
abbrev aal:=@List.mem_map
abbrev aau:=@List.length_cons
abbrev aav:=@Option.some.injEq
abbrev aaw:=@List.getElem_mem
abbrev aaz:=@Option.map_eq_some_iff
abbrev aaA:=@List.length_take
abbrev aaC:=@Array.getElem?_eq_some_iff
abbrev aaD:=@Option.map_some
abbrev aaE:=@List.getElem?_eq_none
abbrev aaF:=@List.length_set
abbrev aaI:=@Nat.lt_of_lt_of_le
abbrev aaJ:=@List.mem_cons
abbrev aaK:=@List.mem_or_eq_of_mem_set
abbrev aaL:=@List.map_cons
abbrev aaM:=@List.getElem?_take
abbrev aaN:=@List.findIdx?_eq_some_iff_getElem
abbrev aaP:=@Nat.zero_add
abbrev aaU:=@Nat.not_lt_zero
abbrev aaV:=@List.take_length
abbrev aaW:=@List.getElem?_set
abbrev aaZ:=@Nat.mul_le_mul_right
abbrev aa3:=@List.length_append
abbrev aa9:=@Nat.ble_eq
abbrev aba:=@Array.getElem?_modify
abbrev abc:=@List.any_eq_true
abbrev abd:=@List.all_eq_true
abbrev abf:=@Nat.add_mul
abbrev abg:=@Nat.add_assoc
abbrev abi:=@Nat.eq_zero_or_pos
abbrev abj:=@List.getElem?_drop
abbrev abl:=@List.length_nil
abbrev abm:=@List.map_append
abbrev abo:=@List.mem_of_mem_take
abbrev abq:=@Array.getElem?_toList
abbrev abr:=@List.ext_getElem?
abbrev abt:=@Option.getD_some
abbrev abu:=@List.mem_append
abbrev abv:=@List.map_set
abbrev aby:=@List.mem_cons_of_mem
abbrev abz:=@List.length_drop
abbrev abD:=@Nat.le_trans
abbrev abE:=@Array.getD_eq_getD_getElem?
abbrev abF:=@List.map_map
abbrev abG:=@List.take_add_one
abbrev abH:=@List.nodup_cons
abbrev abI:=@Array.getElem?_eq_getElem
abbrev abJ:=@Nat.blt_eq
abbrev abK:=@List.getElem?_cons_succ
abbrev abL:=@Bool.false_eq_true
abbrev abM:=@List.take_of_length_le
abbrev abN:=@Bool.not_eq_true'
abbrev abO:=@List.append_nil
abbrev abR:=@Array.length_toList
abbrev abV:=@List.getElem?_take_of_lt
abbrev abX:=@Bool.or_eq_true
abbrev abY:=@List.mem_singleton
abbrev abZ:=@Array.ext'
abbrev ab0:=@List.filter_cons
abbrev ab2:=@Array.getElem?_setIfInBounds_self_of_lt
abbrev ab3:=@Nat.one_mul
abbrev ab4:=@List.pairwise_iff_getElem
abbrev ab5:=@Nat.lt_succ_self
abbrev ab6:=@List.length_mapIdx
abbrev ab7:=@Array.getElem?_setIfInBounds
abbrev ab8:=@List.getElem?_mapIdx
abbrev ab9:=@List.getElem?_cons_zero
abbrev aca:=@List.mem_filter
abbrev acb:=@List.mem_cons_self
abbrev acm:=@Array.getElem?_setIfInBounds_ne
abbrev acM:=@List.eq_of_mem_replicate
abbrev acN:=@List.mem_of_mem_drop
abbrev acO:=@List.map_congr_left
abbrev acP:=@Array.getElem?_push
abbrev acQ:=@Nat.sub_zero
abbrev acW:=@List.length_filter_le
abbrev acY:=@Array.getElem?_append_left
abbrev acZ:=@Bool.false_or
abbrev ac0:=@List.append_assoc
abbrev ac1:=@List.findIdx?_eq_none_iff
abbrev ac3:=@Nat.sub_self
abbrev ac6:=@Nat.add_zero
abbrev ac7:=@List.not_mem_nil
abbrev ac9:=@List.set_set
abbrev adb:=@List.take_succ_eq_append_getElem
abbrev ade:=@List.getElem?_range
abbrev adf:=@List.filter_eq_self
abbrev adg:=@Bool.true_and
abbrev adh:=@List.map_take
abbrev adi:=@List.pairwise_cons
abbrev adj:=@Nat.ne_of_beq_eq_false
abbrev adk:=@Nat.lt_trichotomy
abbrev adm:=@Bool.and_eq_false_iff
abbrev adn:=@Option.getD_none
abbrev ado:=@Bool.and_eq_true_iff
abbrev adp:=@Bool.not_eq_true
abbrev adq:=@Prod.mk.injEq
abbrev adr:=@List.getElem_of_mem
abbrev ads:=@Nat.min_eq_left
abbrev adt:=@List.drop_eq_getElem_cons
abbrev adu:=@List.getElem?_eq_none_iff
abbrev adv:=@List.exists_mem_of_ne_nil
abbrev adw:=@Nat.mul_comm
abbrev adx:=@List.getElem?_replicate
abbrev ady:=@Nat.le_mul_of_pos_right
abbrev adz:=@List.length_eq_zero_iff
abbrev adA:=@Function.comp_def
abbrev adB:=@List.all_eq_false
abbrev adC:=@Int.le_refl
abbrev adD:=@List.drop_eq_nil_of_le
abbrev adE:=@List.range'_succ
abbrev adF:=@Nat.lt_of_not_le
abbrev adG:=@List.take_append_drop
abbrev adH:=@List.set_append_right
abbrev adI:=@List.range_eq_range'
abbrev adJ:=@Nat.zero_mul
abbrev adK:=@Array.mem_toList_iff
abbrev adL:=@List.map_nil
abbrev adM:=@Nat.beq_refl
abbrev adN:=@Option.some.inj
abbrev adO:=@List.mem_append_left
abbrev adP:=@List.mem_map_of_mem
abbrev adQ:=@List.length_pos_iff
abbrev adR:=@List.drop_zero
abbrev adS:=@Bool.false_and
abbrev adT:=@Array.getElem?_map
abbrev adU:=@List.find?_eq_none
abbrev adV:=@List.filter_append
abbrev adW:=@List.set_cons_zero
abbrev adX:=@Bool.not_true
abbrev adZ:=@List.map_drop
abbrev ad0:=@List.flatMap_cons
abbrev ad1:=@List.filter_congr
abbrev ad5:=@Nat.mod_eq_of_lt
abbrev ad6:=@List.cons_append
abbrev aeb:=@List.cons.injEq
abbrev aec:=@Nat.mul_add_mod
abbrev aed:=@List.nil_append
abbrev aee:=@Bool.eq_iff_iff
abbrev aef:=@Nat.sub_mul
abbrev aek:=@Nat.min_def
theorem om{p:Prop}(h:p:=by omega):p:=h
theorem aE{p:Prop}(h:p:=by simp):p:=h
end Go.AM
namespace Go.AM
inductive Dt where
 |val (v:Value)
 |sl (esz:Nat) (elems:List (List Dt))
inductive CC where
 |aA
 |ah (d:Dt)
 |ptr (id j:Nat)
 |nI (id esz i j:Nat)
 |rL (cs:List Dt)
 |row (id esz lo:Nat) (hi:Option Nat)
 |aO
 |map (id:Nat)
 |fn (f:Nat) (eE:List Nat)
 |ei (esz:Nat) (elems:List (List Dt))
inductive RV where
 |one (c:CC)
 |agg (cs:List CC)
inductive CV where
 |aA
 |undef
 |rv (r:RV)
 |bD (rs:List RV)
structure ME where
 key:Value
 val:RV
inductive MV where
 |ei (elems:List (List Dt))
 |row (n:Nat)
structure MO where
 key:Value
 val:MV
def MO.cc(esz:Nat)(e:MO):CC:=match e.val with| .ei l=>.ei esz l| .row n=>.row n esz 0 none
inductive Bk where
 |aS
 |var (cs:List CC)
 |row (esz:Nat) (elems:List (List CC))
 |mp (es:List ME)
 |it (cur left:List (Value×Value))
 |mo (esz:Nat) (es:List MO) (so:Option (List Nat×Nat))
 |iw (mid ip:Nat) (seen:List Nat)
abbrev Mem:=List Bk
structure St where
 aX:List CV
 mem:Mem
structure wu where
 b:Nat
 aq:Nat
 len:Nat
 cap:Nat
inductive gw where
 |aj (id:Nat)
 |sub (id i j:Nat)
def gw.id:gw->Nat
 | .aj id=>id
 | .sub id _ _=>id
structure bI where
 n:Nat
 aI:gw->wu
 S:Nat->Prop
def cw:Value->Bool
 | .bool _| .int _ _| .string _| .pointer none| .nilFunc| .map none| .nilIface=>true
 |_=>false
theorem cw.one{v:Value}(h:cw v=true):v.oneCell'=true:=by
 cases v<;>simp_all[cw,Value.oneCell']
inductive de(S:Nat->Prop)(w:World):Dt->Value->Prop
 |val (v:Value) (h:cw v=true):de S w (.val v) v
 |no (a:Option Addr):de S w (.val (.slice none 0 0)) (.slice a 0 0)
 |nil (esz:Nat) (a:Option Addr) (cap:Nat) (hc:cap<=maxLen):de S w (.sl esz []) (.slice a 0 cap)
 |sl (esz:Nat) (elems:List (List Dt)) (b off cap:Nat) (u:Nat->Nat->Value) (hS:S b) (hl:elems.length<=cap) (be:cap<=maxLen)
   (dk:∀cs,cs∈elems->cs.length=esz)
   (hc:∀i cs j d,elems[i]? =some cs->cs[j]? =some d->w.cell? ⟨b,off+i*esz+j,none⟩=some (u i j))
   (hd:∀i cs j d,elems[i]? =some cs->cs[j]? =some d->de S w d (u i j)):
   de S w (.sl esz elems) (.slice (some ⟨b,off,none⟩) elems.length cap)
theorem de.one{S:Nat->Prop}{w:World}{d:Dt}{v:Value}(h:de S w d v):v.oneCell'=true:=by
 cases h with
 |val v h=>exact cw.one h
 |no=>rfl
 |nil=>rfl
 |sl=>rfl
theorem de.mono{S S':Nat->Prop}{w w':World}(hS:∀b,S b->S' b)(hw:∀b,S b->w'.heap[b]? =w.heap[b]?){d:Dt}{v:Value}(h:de S w d v):de S' w' d v:=by
 induction h with
 |val v h=>exact .val v h
 |no a=>exact .no a
 |nil esz a cap hc=>exact .nil esz a cap hc
 |sl esz elems b off cap u hb hl be dk hc hd ih=>
  exact .sl esz elems b off cap u (hS b hb) hl be dk
   (λi cs j d hi hj=>by rw[World.cell?_of_block (a:=⟨b,off+i*esz+j,none⟩) (hw b hb)];exact hc i cs j d hi hj) ih
def bj(ρ:bI)(w:World)(pos:Option (Nat×Nat×Nat)):CC->Value->Prop
 | .aA,v=>v.oneCell'=true
 | .ah d,v=>de ρ.S w d v
 | .ptr id j,v=>id<ρ.n/\v= .pointer (some ⟨(ρ.aI (.aj id)).b,(ρ.aI (.aj id)).aq+j,none⟩)
 | .nI id esz i j,v=>id<ρ.n/\v= .pointer (some ⟨(ρ.aI (.aj id)).b,(ρ.aI (.aj id)).aq+i*esz+j,none⟩)
 | .rL cs,v=>∃b off,v= .pointer (some ⟨b,off,none⟩)/\ρ.S b/\∀j d,cs[j]? =some d->∃u,w.cell? ⟨b,off+j,none⟩=some u/\de ρ.S w d u
 | .row id esz lo hi,v=>id<ρ.n/\lo<=hi.getD (ρ.aI (.aj id)).len/\hi.getD (ρ.aI (.aj id)).len<=(ρ.aI (.aj id)).len/\(ρ.aI (.aj id)).len<=(ρ.aI (.aj id)).cap/\(ρ.aI (.aj id)).cap<=maxLen/\
   ∃a,v= .slice a (hi.getD (ρ.aI (.aj id)).len-lo) ((ρ.aI (.aj id)).cap-lo)/\(lo<(ρ.aI (.aj id)).cap->a=some ⟨(ρ.aI (.aj id)).b,(ρ.aI (.aj id)).aq+lo*esz,none⟩)
 | .aO,v=>∃a,v= .slice a 0 0
 | .map id,v=>id<ρ.n/\v= .map (some (ρ.aI (.aj id)).b)
 | .fn f eE,v=>(∀id,id∈eE->id<ρ.n)/\
   v= .func (.func f) #[] (eE.map λid=>Value.pointer (some ⟨(ρ.aI (.aj id)).b,(ρ.aI (.aj id)).aq,none⟩)).toArray
 | .ei esz elems,v=>∃id i j,pos=some (id,i,j)/\elems.length<=(ρ.aI (.sub id i j)).cap/\(ρ.aI (.sub id i j)).cap<=maxLen/\
   ∃a,v= .slice a elems.length (ρ.aI (.sub id i j)).cap/\
    (0<(ρ.aI (.sub id i j)).cap->a=some ⟨(ρ.aI (.sub id i j)).b,(ρ.aI (.sub id i j)).aq,none⟩)
theorem bj.one{ρ:bI}{w:World}{pos:Option (Nat×Nat×Nat)}{c:CC}{v:Value}(h:bj ρ w pos c v):v.oneCell'=true:=by
 cases c<;>simp only[bj]at h
 case aA=>exact h
 case ah=>exact h.one
 case ptr=>rw[h.2];rfl
 case nI=>rw[h.2];rfl
 case rL=>obtain⟨_,_,rfl,_⟩:=h;rfl
 case row=>obtain⟨_,_,_,_,_,_,rfl,_⟩:=h;rfl
 case aO=>obtain⟨_,rfl⟩:=h;rfl
 case map=>rw[h.2];rfl
 case fn=>rw[h.2];rfl
 case ei=>obtain⟨_,_,_,_,_,_,_,rfl,_⟩:=h;rfl
structure iL(ρ:bI)(w:World)(U':bI)(w':World):Prop where
 n:ρ.n<=U'.n
 aI:∀k:gw,k.id<ρ.n->U'.aI k=ρ.aI k
 S:∀b,ρ.S b->U'.S b
 heap:∀b,ρ.S b->w'.heap[b]? =w.heap[b]?
theorem bj.cm{ρ U':bI}{w w':World}{pos:Option (Nat×Nat×Nat)}(g:iL ρ w U' w')(hp:∀id i j,pos=some (id,i,j)->id<ρ.n){c:CC}{v:Value}(h:bj ρ w pos c v):bj U' w' pos c v:=by
 cases c<;>simp only[bj]at h|-
 case aA=>exact h
 case ah=>exact h.mono g.S g.heap
 case ptr id j=>rw[g.aI (.aj id) h.1];exact⟨aaI h.1 g.n,h.2⟩
 case nI id _ _ _=>rw[g.aI (.aj id) h.1];exact⟨aaI h.1 g.n,h.2⟩
 case rL cs=>
  obtain⟨b,off,hv,hb,hc⟩:=h;refine⟨b,off,hv,g.S b hb,λj d hj=>?_⟩
  obtain⟨u,hu,hd⟩:=hc j d hj;exact⟨u,by rw[World.cell?_of_block (a:=⟨b,off+j,none⟩) (g.heap b hb)];exact hu,hd.mono g.S g.heap⟩
 case row id _ _ _=>rw[g.aI (.aj id) h.1];exact⟨aaI h.1 g.n,h.2⟩
 case aO=>exact h
 case map id=>rw[g.aI (.aj id) h.1];exact⟨aaI h.1 g.n,h.2⟩
 case fn f eE=>
  refine⟨λid hid=>aaI (h.1 id hid) g.n,?_⟩
  rw[h.2];congr 2;refine acO λid hid=>?_
  rw[g.aI (.aj id) (h.1 id hid)]
 case ei esz elems=>
  obtain⟨id,i,j,cI,rM⟩:=h;refine⟨id,i,j,cI,?_⟩;rw[g.aI (.sub id i j) (hp id i j cI)];exact rM
def df(ρ:bI)(w:World):RV->Value->Prop
 | .one c,v=>bj ρ w .none c v
 | .agg cs,v=>∃vs:List Value,v= .agg vs.toArray/\vs.length=cs.length/\∀(i:Nat)c,cs[i]? =some c->∃u,vs[i]? =some u/\bj ρ w .none c u
theorem df.cm{ρ U':bI}{w w':World}(g:iL ρ w U' w'){r:RV}{v:Value}(h:df ρ w r v):df U' w' r v:=by
 cases r with
 |one c=>exact bj.cm g aE h
 |agg cs=>
  obtain⟨vs,hv,hl,hc⟩:=h;exact⟨vs,hv,hl,λi c hi=>let⟨u,hu,hd⟩:=hc i c hi;⟨u,hu,bj.cm g aE hd⟩⟩
def ce(ρ:bI)(w:World):CV->Value->Prop
 | .aA,_=>True
 | .undef,v=>v=Go.undef
 | .rv r,v=>df ρ w r v
 | .bD rs,v=>∃vs:List Value,v= .tuple vs.toArray/\vs.length=rs.length/\∀(i:Nat)r,rs[i]? =some r->∃u,vs[i]? =some u/\df ρ w r u
theorem ce.cm{ρ U':bI}{w w':World}(g:iL ρ w U' w'){c:CV}{v:Value}(h:ce ρ w c v):ce U' w' c v:=by
 cases c with
 |aA=>trivial
 |undef=>exact h
 |rv r=>exact df.cm g h
 |bD rs=>
  obtain⟨vs,hv,hl,hc⟩:=h;exact⟨vs,hv,hl,λi c hi=>let⟨u,hu,hd⟩:=hc i c hi;⟨u,hu,df.cm g hd⟩⟩
def mE(mk:Prop)(w:World)(b:Nat)(cur:Array Value):Prop:=
 ∃ty fr,w.heap[b]? =some (.cells cur ty fr)/\fr.1<=fr.2/\(∀i,i<cur.size->(decide (fr.1<=i)&&decide (i<fr.2))=false)/\(mk\/fr.2<=cur.size)
theorem mE.lt{mk:Prop}{w:World}{b:Nat}{cur:Array Value}(h:mE mk w b cur):b<w.heap.size:=by obtain⟨ty,fr,h,_⟩:=h;exact(aaC.1 h).1
theorem mE.cell{mk:Prop}{w:World}{b:Nat}{cur:Array Value}(h:mE mk w b cur)(i:Nat):w.cell? ⟨b,i,none⟩=cur[i]? :=by obtain⟨ty,fr,h,_⟩:=h;exact cell_of_row w b i cur ty fr h
theorem mE.qN{mk:Prop}{w:World}{b:Nat}{cur:Array Value}(h:mE mk w b cur){i:Nat}(hi:i<cur.size):w.frozen? ⟨b,i,none⟩=false:=by obtain⟨ty,fr,h,_,hf,_⟩:=h;simpa[World.frozen?,h]using hf i hi
theorem mE.dC{mk:Prop}{w w':World}{b:Nat}{cur:Array Value}(h:mE mk w b cur)(hb:w'.heap[b]? =w.heap[b]?):mE mk w' b cur:=by obtain⟨ty,fr,h,hf⟩:=h;exact⟨ty,fr,hb.trans h,hf⟩
theorem mE.new{mk:Prop}(w:World)(cur:Array Value)(ty:TypeId):mE mk (w.alloc (.cells cur ty)) w.heap.size cur:=
 ⟨ty,(0,0),heap_alloc_new w _,Ym _,(by intro i _;simp),.inr (aaj _)⟩
def AN(ρ:bI)(w:World)(es:List ME)(bq:Array MapEntry):Prop:=
 bq.size=es.length/\∀(i:Nat)e,es[i]? =some e->∃e',bq[i]? =some e'/\e'.key=e.key/\df ρ w e.val e'.val
def ib(bq:Array MapEntry)(clock:Nat):Prop:=(∀e,e∈bq.toList->e.born<clock)/\(bq.toList.map (·.born)).Nodup
def Wo(seen:Array Nat)(bq:Array MapEntry)(cur left:List (Value×Value)):Prop:=
 ((bq.filter λe=>!seen.contains e.born).toList.map λe=>(e.key,e.val))=left/\(∀p,p∈cur->∃(e:MapEntry)(LZ:Array Nat),e∈bq.toList/\seen=LZ.push e.born/\(e.key,e.val)=p)/\∀p,p∈left\/p∈cur->cw p.1=true/\cw p.2=true
def cJ(ρ:bI)(w:World)(id:Nat):Bk->Prop
 | .aS=>True
 | .var cs=>∃cur,mE True w (ρ.aI (.aj id)).b cur/\∀(j:Nat)c,cs[j]? =some c->∃u,cur[(ρ.aI (.aj id)).aq+j]? =some u/\bj ρ w .none c u
 | .row esz elems=>elems.length=(ρ.aI (.aj id)).len/\(ρ.aI (.aj id)).len<=(ρ.aI (.aj id)).cap/\(ρ.aI (.aj id)).cap<=maxLen/\(∀cs,cs∈elems->cs.length=esz)/\
   (0<(ρ.aI (.aj id)).cap->∃cur,mE (esz=1) w (ρ.aI (.aj id)).b cur/\(ρ.aI (.aj id)).aq+(ρ.aI (.aj id)).cap*esz<=cur.size/\
    ∀(i:Nat)cs(j:Nat)c,elems[i]? =some cs->cs[j]? =some c->∃u,cur[(ρ.aI (.aj id)).aq+i*esz+j]? =some u/\bj ρ w (some (id,i,j)) c u)
 | .mp es=>∃bq clock,(w.heap[(ρ.aI (.aj id)).b]? =some (.map bq clock)/\ib bq clock)/\AN ρ w es bq
 | .it cur left=>∃mb seen clock bq,w.heap[(ρ.aI (.aj id)).b]? =some (.mapIter (some mb) clock seen clock)/\(ρ.aI (.aj id)).aq=0/\ρ.S mb/\w.heap[mb]? =some (.map bq clock)/\ib bq clock/\Wo seen bq cur left
 | .mo esz es so=>∃bq clock,(w.heap[(ρ.aI (.aj id)).b]? =some (.map bq clock)/\ib bq clock)/\(bq.size=es.length/\∀(i:Nat)e,es[i]? =some e->∃e',bq[i]? =some e'/\e'.key=e.key/\cw e.key=true/\bj ρ w (some (id,i,0)) (e.cc esz) e'.val)/\
   ∀st ip,so=some (st,ip)->clock=ip/\bq.toList.map (·.born)=st
 | .iw mid ip seen=>mid<ρ.n/\(ρ.aI (.aj id)).aq=0/\∃s:Array Nat,w.heap[(ρ.aI (.aj id)).b]? =some (.mapIter (some (ρ.aI (.aj mid)).b) ip s ip)/\s.toList.reverse=seen
inductive qt:Bk->Nat->Nat->Nat->List (List Dt)->Prop
 |row {es:Nat} {rows:List (List CC)} {cs:List CC} {i j esz:Nat} {elems:List (List Dt)} (hi:rows[i]? =some cs) (hj:cs[j]? =some (.ei esz elems)):qt (.row es rows) i j esz elems
 |mo {esz:Nat} {es:List MO} {so:Option (List Nat×Nat)} {i:Nat} {k:Value} {elems:List (List Dt)} (hi:es[i]? =some ⟨k,.ei elems⟩):qt (.mo esz es so) i 0 esz elems
theorem qt.yO{es:Nat}{rows:List (List CC)}{i j s:Nat}{e:List (List Dt)}(h:qt (.row es rows) i j s e):∃cs,rows[i]? =some cs/\cs[j]? =some (.ei s e):=by
 cases h with
 |row hi hj=>exact⟨_,hi,hj⟩
theorem qt.Su{s0:Nat}{es:List MO}{so:Option (List Nat×Nat)}{i j s:Nat}{e:List (List Dt)}(h:qt (.mo s0 es so) i j s e):∃k,es[i]? =some ⟨k,.ei e⟩/\j=0/\s=s0:=by
 cases h with
 |mo hi=>exact⟨_,hi,rfl,rfl⟩
def dY(m:Mem)(id i j esz:Nat)(elems:List (List Dt)):Prop:=
 ∃bk,m[id]? =some bk/\qt bk i j esz elems
def qQ(ρ:bI)(w:World)(l:wu)(esz:Nat)(elems:List (List Dt)):Prop:=
 ∃cur,mE (esz=1) w l.b cur/\l.aq+l.cap*esz<=cur.size/\(∀cs,cs∈elems->cs.length=esz)/\
  ∀(i:Nat)cs(j:Nat)d,elems[i]? =some cs->cs[j]? =some d->∃u,cur[l.aq+i*esz+j]? =some u/\de ρ.S w d u
def Live(ρ:bI)(m:Mem):gw->Prop
 | .aj id=>∃bk,m[id]? =some bk/\bk≠.aS/\((∃esz elems,bk= .row esz elems)->0<(ρ.aI (.aj id)).cap)
 | .sub id i j=>(∃esz elems,dY m id i j esz elems)/\0<(ρ.aI (.sub id i j)).cap
structure ay(ρ:bI)(m:Mem)(w:World):Prop where
 n:ρ.n=m.length
 S:∀b,ρ.S b->b<w.heap.size
 aL:∀k,Live ρ m k->(ρ.aI k).b<w.heap.size/\¬ρ.S (ρ.aI k).b
 inj:∀k k',Live ρ m k->Live ρ m k'->(ρ.aI k).b=(ρ.aI k').b->k=k'
 bk:∀(id:Nat)b,m[id]? =some b->cJ ρ w id b
 ei:∀id i j esz elems,dY m id i j esz elems->0<(ρ.aI (.sub id i j)).cap->qQ ρ w (ρ.aI (.sub id i j)) esz elems
theorem Live.eT{ρ:bI}{m:Mem}{k:gw}(h:Live ρ m k):k.id<m.length:=by
 cases k with
 |aj id=>obtain⟨bk,h,_⟩:=h;exact(Km.1 h).1
 |sub id i j=>obtain⟨⟨_,_,_,h,_⟩,_⟩:=h;exact(Km.1 h).1
structure Ext(ρ:bI)(m:Mem)(w:World)(U':bI)(m':Mem)(w':World):Prop where
 n:ρ.n<=U'.n
 aI:∀id,id<ρ.n->U'.aI (.aj id)=ρ.aI (.aj id)
 S:∀b,ρ.S b->U'.S b
 S':∀b,U'.S b->ρ.S b\/w.heap.size<=b\/∃k,Live ρ m k/\(ρ.aI k).b=b
 aL:∀k,Live U' m' k->w.heap.size<=(U'.aI k).b\/∃k0,Live ρ m k0/\(ρ.aI k0).b=(U'.aI k).b
 frame:∀b,b<w.heap.size->(∀k,Live ρ m k->(ρ.aI k).b≠b)->w'.heap[b]? =w.heap[b]?
 size:w.heap.size<=w'.heap.size
 os:w'.os=w.os
 tape:w'.tape=w.tape
 output:w'.output=w.output
theorem Ext.refl(ρ:bI)(m:Mem)(w:World):Ext ρ m w ρ m w:=
 ⟨Ym _,λ_ _=>rfl,λ_ h=>h,λ_ h=>.inl h,λk h=>.inr ⟨k,h,rfl⟩,λ_ _ _=>rfl,Ym _,rfl,rfl,rfl⟩
theorem Ext.trans{ρ ρ1 ρ2:bI}{m m1 m2:Mem}{w w1 w2:World}(a:Ext ρ m w ρ1 m1 w1)(b:Ext ρ1 m1 w1 ρ2 m2 w2):Ext ρ m w ρ2 m2 w2 where
 n:=abD a.n b.n
 aI id h:=(b.aI id (aaI h a.n)).trans (a.aI id h)
 S x h:=b.S x (a.S x h)
 S' x h:=by
  rcases b.S' x h with h|h|⟨k,hk,he⟩
  .exact a.S' x h
  .exact .inr (.inl (abD a.size h))
  .rcases a.aL k hk with h|⟨k0,h0,e0⟩
   .exact .inr (.inl (he▸h))
   .exact .inr (.inr ⟨k0,h0,e0.trans he⟩)
 aL k h:=by
  rcases b.aL k h with h|⟨k1,h1,e1⟩
  .exact .inl (abD a.size h)
  .rcases a.aL k1 h1 with h|⟨k0,h0,e0⟩
   .exact .inl (e1▸h)
   .exact .inr ⟨k0,h0,e0.trans e1⟩
 frame x hx hk:=by
  refine(b.frame x (aaI hx a.size) λk1 h1 e1=>?_).trans (a.frame x hx hk)
  rcases a.aL k1 h1 with h|⟨k0,h0,e0⟩
  .omega
  .exact hk k0 h0 (e0.trans e1)
 size:=abD a.size b.size
 os:=b.os.trans a.os
 tape:=b.tape.trans a.tape
 output:=b.output.trans a.output
theorem bj.ext{ρ U':bI}{m m':Mem}{w w':World}(hM:ay ρ m w)(x:Ext ρ m w U' m' w'){c:CC}{v:Value}(h:bj ρ w .none c v):bj U' w' .none c v:=by
 have hh:∀b,ρ.S b->w'.heap[b]? =w.heap[b]? :=λb hb=>x.frame b (hM.S b hb) λk hk e=>(hM.aL k hk).2 (e▸hb)
 let ρ1:bI:={n:=U'.n,aI:=λk=>match k with| .aj id=>U'.aI (.aj id)|k=>if k.id<ρ.n then ρ.aI k else U'.aI k,S:=U'.S}
 have g:iL ρ w ρ1 w':=⟨x.n,λk hk=>by
  cases k with
  |aj id=>exact x.aI id hk
  |sub id i j=>simp only[ρ1];rw[if_pos hk],x.S,hh⟩
 have h1:=bj.cm g aE h;cases c<;>simp only[bj]at h1|-
 case ei=>obtain⟨_,_,_,e,_⟩:=h1;cases e
 all_goals exact h1
theorem df.ext{ρ U':bI}{m m':Mem}{w w':World}(hM:ay ρ m w)(x:Ext ρ m w U' m' w'){r:RV}{v:Value}(h:df ρ w r v):df U' w' r v:=by
 cases r with
 |one c=>exact bj.ext hM x h
 |agg cs=>
  obtain⟨vs,hv,hl,hc⟩:=h;exact⟨vs,hv,hl,λi c hi=>let⟨u,hu,hd⟩:=hc i c hi;⟨u,hu,bj.ext hM x hd⟩⟩
theorem ce.ext{ρ U':bI}{m m':Mem}{w w':World}(hM:ay ρ m w)(x:Ext ρ m w U' m' w'){c:CV}{v:Value}(h:ce ρ w c v):ce U' w' c v:=by
 cases c with
 |aA=>trivial
 |undef=>exact h
 |rv r=>exact df.ext hM x h
 |bD rs=>
  obtain⟨vs,hv,hl,hc⟩:=h;exact⟨vs,hv,hl,λi c hi=>let⟨u,hu,hd⟩:=hc i c hi;⟨u,hu,df.ext hM x hd⟩⟩
end Go.AM
