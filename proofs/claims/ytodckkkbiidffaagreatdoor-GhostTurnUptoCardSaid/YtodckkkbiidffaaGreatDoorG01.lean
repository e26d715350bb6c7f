/- Part 1 of 16. -/
import Derived.Calls
import Derived.Laws.AppendOwn
import Derived.Laws.Cells
import Derived.Laws.Tables
import Derived.Laws.Entries
import Derived.Below
import Derived.Deep.Quiet
set_option linter.unusedVariables false
set_option linter.unusedSimpArgs false
set_option maxRecDepth 100000
set_option maxHeartbeats 0
namespace Go.AM
abbrev uX:=@List.getElem?_eq_getElem
abbrev I4:=@List.getElem?_eq_some_iff
abbrev ML:=@List.length_map
abbrev N0:=@Option.bind_eq_some_iff
abbrev RA:=@List.getElem?_map
abbrev RD:=@List.mem_of_getElem?
abbrev RX:=@Option.bind_eq_bind
abbrev Tr:=@List.getElem?_set_self
abbrev Ts:=@Nat.le_refl
abbrev WE:=@List.getElem?_set_ne
abbrev WH:=@List.getElem?_append_right
abbrev Xt:=@List.getElem?_of_mem
abbrev Yf:=@List.getElem?_append_left
abbrev Z5:=@Classical.byContradiction
abbrev aab:=@Bool.and_eq_true
abbrev aac:=@Int.toNat_natCast
abbrev aad:=@Nat.lt_or_ge
abbrev aae:=@Nat.le_of_ble_eq_true
abbrev aag:=@List.eq_nil_of_length_eq_zero
abbrev aah:=@List.length_cons
abbrev aai:=@Nat.eq_of_beq_eq_true
abbrev aaj:=@Nat.zero_le
abbrev aak:=@List.mem_map
abbrev aal:=@List.getElem_mem
abbrev aam:=@Option.some.injEq
abbrev aan:=@List.length_take
abbrev aao:=@Option.map_eq_some_iff
abbrev aap:=@Array.getElem?_eq_some_iff
abbrev aaz:=@Option.map_some
abbrev aaY:=@List.length_set
abbrev aaZ:=@List.getElem?_eq_none
abbrev aa0:=@Nat.lt_of_lt_of_le
abbrev aa1:=@List.mem_cons
abbrev aa2:=@List.mem_or_eq_of_mem_set
abbrev aa8:=@List.getElem?_take
abbrev aa9:=@List.map_cons
abbrev aba:=@List.length_append
abbrev abb:=@Nat.zero_add
abbrev abc:=@List.findIdx?_eq_some_iff_getElem
abbrev abe:=@List.take_length
abbrev abh:=@Nat.mul_le_mul_right
abbrev abi:=@Nat.not_lt_zero
abbrev abl:=@List.getElem?_set
abbrev abm:=@List.any_eq_true
abbrev abn:=@Nat.ble_eq
abbrev abo:=@Nat.add_assoc
abbrev abp:=@List.getElem?_drop
abbrev abq:=@List.mem_of_mem_take
abbrev abr:=@Nat.add_mul
abbrev abu:=@Nat.eq_zero_or_pos
abbrev abv:=@List.length_nil
abbrev abw:=@List.map_append
abbrev abx:=@Array.getElem?_modify
abbrev aby:=@List.all_eq_true
abbrev abz:=@List.length_drop
abbrev abA:=@List.getElem?_cons_succ
abbrev abB:=@Array.getElem?_toList
abbrev abC:=@Option.getD_some
abbrev abD:=@List.mem_append
abbrev abE:=@List.map_set
abbrev abF:=@List.ext_getElem?
abbrev abG:=@Array.getD_eq_getD_getElem?
abbrev abH:=@Nat.le_trans
abbrev abI:=@List.take_add_one
abbrev abJ:=@List.nodup_cons
abbrev abK:=@Array.getElem?_eq_getElem
abbrev abL:=@Nat.blt_eq
abbrev abM:=@List.map_map
abbrev abN:=@List.take_of_length_le
abbrev abO:=@List.append_nil
abbrev abP:=@Bool.not_eq_true'
abbrev abQ:=@Bool.false_eq_true
abbrev abR:=@List.pairwise_iff_getElem
abbrev abS:=@Array.length_toList
abbrev abT:=@List.getElem?_take_of_lt
abbrev abU:=@Bool.or_eq_true
abbrev abV:=@Array.ext'
abbrev abW:=@List.filter_cons
abbrev abX:=@List.mem_cons_of_mem
abbrev abY:=@Array.getElem?_setIfInBounds_self_of_lt
abbrev abZ:=@Nat.one_mul
abbrev ab0:=@Nat.lt_succ_self
abbrev ab1:=@List.length_mapIdx
abbrev ab2:=@Array.getElem?_setIfInBounds
abbrev ab3:=@List.mem_of_mem_drop
abbrev ab4:=@List.getElem?_mapIdx
abbrev ab5:=@List.getElem?_cons_zero
abbrev ab6:=@List.mem_filter
abbrev ab7:=@List.mem_singleton
abbrev ab8:=@Array.getElem?_setIfInBounds_ne
abbrev ab9:=@List.eq_of_mem_replicate
abbrev aca:=@List.append_assoc
abbrev acb:=@Nat.sub_zero
abbrev acd:=@List.pairwise_cons
abbrev ace:=@List.take_append_drop
abbrev acf:=@List.length_filter_le
abbrev acg:=@Array.getElem?_append_left
abbrev ach:=@Bool.false_or
abbrev aci:=@List.map_take
abbrev acj:=@List.findIdx?_eq_none_iff
abbrev ack:=@Nat.sub_self
abbrev acm:=@Nat.add_zero
abbrev acn:=@List.not_mem_nil
abbrev aco:=@List.set_set
abbrev acp:=@List.map_congr_left
abbrev acq:=@List.filter_eq_self
abbrev acr:=@Nat.min_eq_left
abbrev acs:=@Nat.ne_of_beq_eq_false
abbrev acu:=@Int.le_refl
abbrev acv:=@Bool.and_eq_false_iff
abbrev acw:=@Option.getD_none
abbrev acx:=@Bool.and_eq_true_iff
abbrev acy:=@Bool.not_eq_true
abbrev acz:=@Prod.mk.injEq
abbrev acA:=@List.getElem_of_mem
abbrev acB:=@Array.getElem?_push
abbrev acC:=@List.drop_eq_getElem_cons
abbrev acE:=@List.getElem?_eq_none_iff
abbrev acF:=@Option.some.inj
abbrev acG:=@List.exists_mem_of_ne_nil
abbrev acH:=@Nat.mul_comm
abbrev acI:=@List.drop_zero
abbrev acJ:=@List.getElem?_replicate
abbrev acM:=@Nat.le_mul_of_pos_right
abbrev acN:=@List.length_eq_zero_iff
abbrev acO:=@Nat.lt_trichotomy
abbrev acP:=@Function.comp_def
abbrev acQ:=@List.drop_eq_nil_of_le
abbrev acS:=@List.range'_succ
abbrev acT:=@Nat.lt_of_not_le
abbrev acU:=@List.set_append_right
abbrev acV:=@Nat.zero_mul
abbrev acW:=@Array.mem_toList_iff
abbrev acX:=@List.map_nil
abbrev acY:=@Nat.beq_refl
abbrev acZ:=@Bool.eq_iff_iff
abbrev ac0:=@List.mem_map_of_mem
abbrev ac1:=@List.length_pos_iff
abbrev ac2:=@Array.getElem?_map
abbrev ac3:=@List.find?_eq_none
abbrev ac4:=@List.filter_append
abbrev ac5:=@List.set_cons_zero
abbrev ac6:=@Bool.not_true
abbrev ac7:=@Bool.true_and
abbrev ac9:=@List.map_drop
abbrev ada:=@List.filter_congr
abbrev adf:=@Nat.mod_eq_of_lt
abbrev adg:=@List.cons_append
abbrev adl:=@Nat.mul_add_mod
abbrev adm:=@List.nil_append
abbrev adn:=@Nat.sub_mul
abbrev adr:=@Nat.min_def
theorem om{p:Prop}(h:p:=by omega):p:=h
theorem aC{p:Prop}(h:p:=by simp):p:=h
end Go.AM
namespace Go.AM
inductive Dt where
 |val (v:Value)
 |sl (esz:Nat) (elems:List (List Dt))
inductive CC where
 |ap
 |aa (d:Dt)
 |ptr (id j:Nat)
 |nb (id esz i j:Nat)
 |qS (cs:List Dt)
 |row (id esz lo:Nat) (hi:Option Nat)
 |aO
 |map (id:Nat)
 |fn (f:Nat) (eh:List Nat)
 |dV (esz:Nat) (elems:List (List Dt))
inductive RV where
 |one (c:CC)
 |agg (cs:List CC)
inductive CV where
 |ap
 |undef
 |rv (r:RV)
 |bz (rs:List RV)
structure ME where
 key:Value
 val:RV
inductive MV where
 |dV (elems:List (List Dt))
 |row (n:Nat)
structure MO where
 key:Value
 val:MV
def MO.cc(esz:Nat)(e:MO):CC:=match e.val with| .dV l=>.dV esz l| .row n=>.row n esz 0 none
inductive Bk where
 |aS
 |var (cs:List CC)
 |row (esz:Nat) (elems:List (List CC))
 |mp (es:List ME)
 |it (cur left:List (Value×Value))
 |mo (esz:Nat) (es:List MO) (so:Option (List Nat×Nat))
 |iw (mid gU:Nat) (seen:List Nat)
abbrev Mem:=List Bk
structure St where
 aX:List CV
 mem:Mem
structure vl where
 b:Nat
 ar:Nat
 len:Nat
 cap:Nat
inductive fY where
 |al (id:Nat)
 |sub (id i j:Nat)
def fY.id:fY->Nat
 | .al id=>id
 | .sub id _ _=>id
structure bF where
 n:Nat
 aH:fY->vl
 S:Nat->Prop
def cE:Value->Bool
 | .bool _| .int _ _| .string _| .pointer none| .nilFunc| .map none| .nilIface=>true
 |_=>false
theorem cE.one{v:Value}(h:cE v=true):v.oneCell'=true:=by
 cases v<;>simp_all[cE,Value.oneCell']
inductive c7(S:Nat->Prop)(w:World):Dt->Value->Prop
 |val (v:Value) (h:cE v=true):c7 S w (.val v) v
 |no (a:Option Addr):c7 S w (.val (.slice none 0 0)) (.slice a 0 0)
 |nil (esz:Nat) (a:Option Addr) (cap:Nat) (hc:cap<=maxLen):c7 S w (.sl esz []) (.slice a 0 cap)
 |sl (esz:Nat) (elems:List (List Dt)) (b off cap:Nat) (u:Nat->Nat->Value) (hS:S b) (hl:elems.length<=cap) (bc:cap<=maxLen)
   (dn:∀cs,cs∈elems->cs.length=esz)
   (hc:∀i cs j d,elems[i]? =some cs->cs[j]? =some d->w.cell? ⟨b,off+i*esz+j,none⟩=some (u i j))
   (hd:∀i cs j d,elems[i]? =some cs->cs[j]? =some d->c7 S w d (u i j)):
   c7 S w (.sl esz elems) (.slice (some ⟨b,off,none⟩) elems.length cap)
theorem c7.one{S:Nat->Prop}{w:World}{d:Dt}{v:Value}(h:c7 S w d v):v.oneCell'=true:=by
 cases h with
 |val v h=>exact cE.one h
 |no=>rfl
 |nil=>rfl
 |sl=>rfl
theorem c7.mono{S S':Nat->Prop}{w w':World}(hS:∀b,S b->S' b)(hw:∀b,S b->w'.heap[b]? =w.heap[b]?){d:Dt}{v:Value}(h:c7 S w d v):c7 S' w' d v:=by
 induction h with
 |val v h=>exact .val v h
 |no a=>exact .no a
 |nil esz a cap hc=>exact .nil esz a cap hc
 |sl esz elems b off cap u hb hl bc dn hc hd ih=>
  exact .sl esz elems b off cap u (hS b hb) hl bc dn
   (λi cs j d hi hj=>by rw[World.cell?_of_block (a:=⟨b,off+i*esz+j,none⟩) (hw b hb)];exact hc i cs j d hi hj) ih
def bh(U:bF)(w:World)(pos:Option (Nat×Nat×Nat)):CC->Value->Prop
 | .ap,v=>v.oneCell'=true
 | .aa d,v=>c7 U.S w d v
 | .ptr id j,v=>id<U.n/\v= .pointer (some ⟨(U.aH (.al id)).b,(U.aH (.al id)).ar+j,none⟩)
 | .nb id esz i j,v=>id<U.n/\v= .pointer (some ⟨(U.aH (.al id)).b,(U.aH (.al id)).ar+i*esz+j,none⟩)
 | .qS cs,v=>∃b off,v= .pointer (some ⟨b,off,none⟩)/\U.S b/\∀j d,cs[j]? =some d->∃u,w.cell? ⟨b,off+j,none⟩=some u/\c7 U.S w d u
 | .row id esz lo hi,v=>id<U.n/\lo<=hi.getD (U.aH (.al id)).len/\hi.getD (U.aH (.al id)).len<=(U.aH (.al id)).len/\(U.aH (.al id)).len<=(U.aH (.al id)).cap/\(U.aH (.al id)).cap<=maxLen/\
   ∃a,v= .slice a (hi.getD (U.aH (.al id)).len-lo) ((U.aH (.al id)).cap-lo)/\(lo<(U.aH (.al id)).cap->a=some ⟨(U.aH (.al id)).b,(U.aH (.al id)).ar+lo*esz,none⟩)
 | .aO,v=>∃a,v= .slice a 0 0
 | .map id,v=>id<U.n/\v= .map (some (U.aH (.al id)).b)
 | .fn f eh,v=>(∀id,id∈eh->id<U.n)/\
   v= .func (.func f) #[] (eh.map λid=>Value.pointer (some ⟨(U.aH (.al id)).b,(U.aH (.al id)).ar,none⟩)).toArray
 | .dV esz elems,v=>∃id i j,pos=some (id,i,j)/\elems.length<=(U.aH (.sub id i j)).cap/\(U.aH (.sub id i j)).cap<=maxLen/\
   ∃a,v= .slice a elems.length (U.aH (.sub id i j)).cap/\
    (0<(U.aH (.sub id i j)).cap->a=some ⟨(U.aH (.sub id i j)).b,(U.aH (.sub id i j)).ar,none⟩)
theorem bh.one{U:bF}{w:World}{pos:Option (Nat×Nat×Nat)}{c:CC}{v:Value}(h:bh U w pos c v):v.oneCell'=true:=by
 cases c<;>simp only[bh]at h
 case ap=>exact h
 case aa=>exact h.one
 case ptr=>rw[h.2];rfl
 case nb=>rw[h.2];rfl
 case qS=>obtain⟨_,_,rfl,_⟩:=h;rfl
 case row=>obtain⟨_,_,_,_,_,_,rfl,_⟩:=h;rfl
 case aO=>obtain⟨_,rfl⟩:=h;rfl
 case map=>rw[h.2];rfl
 case fn=>rw[h.2];rfl
 case dV=>obtain⟨_,_,_,_,_,_,_,rfl,_⟩:=h;rfl
structure iz(U:bF)(w:World)(U':bF)(w':World):Prop where
 n:U.n<=U'.n
 aH:∀k:fY,k.id<U.n->U'.aH k=U.aH k
 S:∀b,U.S b->U'.S b
 heap:∀b,U.S b->w'.heap[b]? =w.heap[b]?
theorem bh.cm{U U':bF}{w w':World}{pos:Option (Nat×Nat×Nat)}(g:iz U w U' w')(hp:∀id i j,pos=some (id,i,j)->id<U.n){c:CC}{v:Value}(h:bh U w pos c v):bh U' w' pos c v:=by
 cases c<;>simp only[bh]at h|-
 case ap=>exact h
 case aa=>exact h.mono g.S g.heap
 case ptr id j=>rw[g.aH (.al id) h.1];exact⟨aa0 h.1 g.n,h.2⟩
 case nb id _ _ _=>rw[g.aH (.al id) h.1];exact⟨aa0 h.1 g.n,h.2⟩
 case qS cs=>
  obtain⟨b,off,hv,hb,hc⟩:=h;refine⟨b,off,hv,g.S b hb,λj d hj=>?_⟩
  obtain⟨u,hu,hd⟩:=hc j d hj;exact⟨u,by rw[World.cell?_of_block (a:=⟨b,off+j,none⟩) (g.heap b hb)];exact hu,hd.mono g.S g.heap⟩
 case row id _ _ _=>rw[g.aH (.al id) h.1];exact⟨aa0 h.1 g.n,h.2⟩
 case aO=>exact h
 case map id=>rw[g.aH (.al id) h.1];exact⟨aa0 h.1 g.n,h.2⟩
 case fn f eh=>
  refine⟨λid hid=>aa0 (h.1 id hid) g.n,?_⟩
  rw[h.2];congr 2;refine acp λid hid=>?_
  rw[g.aH (.al id) (h.1 id hid)]
 case dV esz elems=>
  obtain⟨id,i,j,cH,qT⟩:=h;refine⟨id,i,j,cH,?_⟩;rw[g.aH (.sub id i j) (hp id i j cH)];exact qT
def dq(U:bF)(w:World):RV->Value->Prop
 | .one c,v=>bh U w .none c v
 | .agg cs,v=>∃vs:List Value,v= .agg vs.toArray/\vs.length=cs.length/\∀(i:Nat)c,cs[i]? =some c->∃u,vs[i]? =some u/\bh U w .none c u
theorem dq.cm{U U':bF}{w w':World}(g:iz U w U' w'){r:RV}{v:Value}(h:dq U w r v):dq U' w' r v:=by
 cases r with
 |one c=>exact bh.cm g aC h
 |agg cs=>
  obtain⟨vs,hv,hl,hc⟩:=h;exact⟨vs,hv,hl,λi c hi=>let⟨u,hu,hd⟩:=hc i c hi;⟨u,hu,bh.cm g aC hd⟩⟩
def bZ(U:bF)(w:World):CV->Value->Prop
 | .ap,_=>True
 | .undef,v=>v=Go.undef
 | .rv r,v=>dq U w r v
 | .bz rs,v=>∃vs:List Value,v= .tuple vs.toArray/\vs.length=rs.length/\∀(i:Nat)r,rs[i]? =some r->∃u,vs[i]? =some u/\dq U w r u
theorem bZ.cm{U U':bF}{w w':World}(g:iz U w U' w'){c:CV}{v:Value}(h:bZ U w c v):bZ U' w' c v:=by
 cases c with
 |ap=>trivial
 |undef=>exact h
 |rv r=>exact dq.cm g h
 |bz rs=>
  obtain⟨vs,hv,hl,hc⟩:=h;exact⟨vs,hv,hl,λi c hi=>let⟨u,hu,hd⟩:=hc i c hi;⟨u,hu,dq.cm g hd⟩⟩
def l6(mk:Prop)(w:World)(b:Nat)(cur:Array Value):Prop:=
 ∃ty fr,w.heap[b]? =some (.cells cur ty fr)/\fr.1<=fr.2/\(∀i,i<cur.size->(decide (fr.1<=i)&&decide (i<fr.2))=false)/\(mk\/fr.2<=cur.size)
theorem l6.lt{mk:Prop}{w:World}{b:Nat}{cur:Array Value}(h:l6 mk w b cur):b<w.heap.size:=by obtain⟨ty,fr,h,_⟩:=h;exact(aap.1 h).1
theorem l6.cell{mk:Prop}{w:World}{b:Nat}{cur:Array Value}(h:l6 mk w b cur)(i:Nat):w.cell? ⟨b,i,none⟩=cur[i]? :=by obtain⟨ty,fr,h,_⟩:=h;exact cell_of_row w b i cur ty fr h
theorem l6.pW{mk:Prop}{w:World}{b:Nat}{cur:Array Value}(h:l6 mk w b cur){i:Nat}(hi:i<cur.size):w.frozen? ⟨b,i,none⟩=false:=by obtain⟨ty,fr,h,_,hf,_⟩:=h;simpa[World.frozen?,h]using hf i hi
theorem l6.dv{mk:Prop}{w w':World}{b:Nat}{cur:Array Value}(h:l6 mk w b cur)(hb:w'.heap[b]? =w.heap[b]?):l6 mk w' b cur:=by obtain⟨ty,fr,h,hf⟩:=h;exact⟨ty,fr,hb.trans h,hf⟩
theorem l6.new{mk:Prop}(w:World)(cur:Array Value)(ty:TypeId):l6 mk (w.alloc (.cells cur ty)) w.heap.size cur:=
 ⟨ty,(0,0),heap_alloc_new w _,Ts _,(by intro i _;simp),.inr (aaj _)⟩
def D1(U:bF)(w:World)(es:List ME)(bx:Array MapEntry):Prop:=
 bx.size=es.length/\∀(i:Nat)e,es[i]? =some e->∃e',bx[i]? =some e'/\e'.key=e.key/\dq U w e.val e'.val
def iV(bx:Array MapEntry)(clock:Nat):Prop:=(∀e,e∈bx.toList->e.born<clock)/\(bx.toList.map (·.born)).Nodup
def UJ(seen:Array Nat)(bx:Array MapEntry)(cur left:List (Value×Value)):Prop:=
 ((bx.filter λe=>!seen.contains e.born).toList.map λe=>(e.key,e.val))=left/\(∀p,p∈cur->∃(e:MapEntry)(Kw:Array Nat),e∈bx.toList/\seen=Kw.push e.born/\(e.key,e.val)=p)/\∀p,p∈left\/p∈cur->cE p.1=true/\cE p.2=true
def cI(U:bF)(w:World)(id:Nat):Bk->Prop
 | .aS=>True
 | .var cs=>∃cur,l6 True w (U.aH (.al id)).b cur/\∀(j:Nat)c,cs[j]? =some c->∃u,cur[(U.aH (.al id)).ar+j]? =some u/\bh U w .none c u
 | .row esz elems=>elems.length=(U.aH (.al id)).len/\(U.aH (.al id)).len<=(U.aH (.al id)).cap/\(U.aH (.al id)).cap<=maxLen/\(∀cs,cs∈elems->cs.length=esz)/\
   (0<(U.aH (.al id)).cap->∃cur,l6 (esz=1) w (U.aH (.al id)).b cur/\(U.aH (.al id)).ar+(U.aH (.al id)).cap*esz<=cur.size/\
    ∀(i:Nat)cs(j:Nat)c,elems[i]? =some cs->cs[j]? =some c->∃u,cur[(U.aH (.al id)).ar+i*esz+j]? =some u/\bh U w (some (id,i,j)) c u)
 | .mp es=>∃bx clock,(w.heap[(U.aH (.al id)).b]? =some (.map bx clock)/\iV bx clock)/\D1 U w es bx
 | .it cur left=>∃mb seen clock bx,w.heap[(U.aH (.al id)).b]? =some (.mapIter (some mb) clock seen clock)/\(U.aH (.al id)).ar=0/\U.S mb/\w.heap[mb]? =some (.map bx clock)/\iV bx clock/\UJ seen bx cur left
 | .mo esz es so=>∃bx clock,(w.heap[(U.aH (.al id)).b]? =some (.map bx clock)/\iV bx clock)/\(bx.size=es.length/\∀(i:Nat)e,es[i]? =some e->∃e',bx[i]? =some e'/\e'.key=e.key/\cE e.key=true/\bh U w (some (id,i,0)) (e.cc esz) e'.val)/\
   ∀st gU,so=some (st,gU)->clock=gU/\bx.toList.map (·.born)=st
 | .iw mid gU seen=>mid<U.n/\(U.aH (.al id)).ar=0/\∃s:Array Nat,w.heap[(U.aH (.al id)).b]? =some (.mapIter (some (U.aH (.al mid)).b) gU s gU)/\s.toList.reverse=seen
inductive pE:Bk->Nat->Nat->Nat->List (List Dt)->Prop
 |row {es:Nat} {rows:List (List CC)} {cs:List CC} {i j esz:Nat} {elems:List (List Dt)} (hi:rows[i]? =some cs) (hj:cs[j]? =some (.dV esz elems)):pE (.row es rows) i j esz elems
 |mo {esz:Nat} {es:List MO} {so:Option (List Nat×Nat)} {i:Nat} {k:Value} {elems:List (List Dt)} (hi:es[i]? =some ⟨k,.dV elems⟩):pE (.mo esz es so) i 0 esz elems
theorem pE.xV{es:Nat}{rows:List (List CC)}{i j s:Nat}{e:List (List Dt)}(h:pE (.row es rows) i j s e):∃cs,rows[i]? =some cs/\cs[j]? =some (.dV s e):=by
 cases h with
 |row hi hj=>exact⟨_,hi,hj⟩
theorem pE.QL{s0:Nat}{es:List MO}{so:Option (List Nat×Nat)}{i j s:Nat}{e:List (List Dt)}(h:pE (.mo s0 es so) i j s e):∃k,es[i]? =some ⟨k,.dV e⟩/\j=0/\s=s0:=by
 cases h with
 |mo hi=>exact⟨_,hi,rfl,rfl⟩
def dM(m:Mem)(id i j esz:Nat)(elems:List (List Dt)):Prop:=
 ∃bk,m[id]? =some bk/\pE bk i j esz elems
def pX(U:bF)(w:World)(l:vl)(esz:Nat)(elems:List (List Dt)):Prop:=
 ∃cur,l6 (esz=1) w l.b cur/\l.ar+l.cap*esz<=cur.size/\(∀cs,cs∈elems->cs.length=esz)/\
  ∀(i:Nat)cs(j:Nat)d,elems[i]? =some cs->cs[j]? =some d->∃u,cur[l.ar+i*esz+j]? =some u/\c7 U.S w d u
def Live(U:bF)(m:Mem):fY->Prop
 | .al id=>∃bk,m[id]? =some bk/\bk≠.aS/\((∃esz elems,bk= .row esz elems)->0<(U.aH (.al id)).cap)
 | .sub id i j=>(∃esz elems,dM m id i j esz elems)/\0<(U.aH (.sub id i j)).cap
structure au(U:bF)(m:Mem)(w:World):Prop where
 n:U.n=m.length
 S:∀b,U.S b->b<w.heap.size
 aQ:∀k,Live U m k->(U.aH k).b<w.heap.size/\¬U.S (U.aH k).b
 inj:∀k k',Live U m k->Live U m k'->(U.aH k).b=(U.aH k').b->k=k'
 bk:∀(id:Nat)b,m[id]? =some b->cI U w id b
 dV:∀id i j esz elems,dM m id i j esz elems->0<(U.aH (.sub id i j)).cap->pX U w (U.aH (.sub id i j)) esz elems
theorem Live.eC{U:bF}{m:Mem}{k:fY}(h:Live U m k):k.id<m.length:=by
 cases k with
 |al id=>obtain⟨bk,h,_⟩:=h;exact(I4.1 h).1
 |sub id i j=>obtain⟨⟨_,_,_,h,_⟩,_⟩:=h;exact(I4.1 h).1
structure Ext(U:bF)(m:Mem)(w:World)(U':bF)(m':Mem)(w':World):Prop where
 n:U.n<=U'.n
 aH:∀id,id<U.n->U'.aH (.al id)=U.aH (.al id)
 S:∀b,U.S b->U'.S b
 S':∀b,U'.S b->U.S b\/w.heap.size<=b\/∃k,Live U m k/\(U.aH k).b=b
 aQ:∀k,Live U' m' k->w.heap.size<=(U'.aH k).b\/∃k0,Live U m k0/\(U.aH k0).b=(U'.aH k).b
 frame:∀b,b<w.heap.size->(∀k,Live U m k->(U.aH k).b≠b)->w'.heap[b]? =w.heap[b]?
 size:w.heap.size<=w'.heap.size
 os:w'.os=w.os
 tape:w'.tape=w.tape
 output:w'.output=w.output
theorem Ext.refl(U:bF)(m:Mem)(w:World):Ext U m w U m w:=
 ⟨Ts _,λ_ _=>rfl,λ_ h=>h,λ_ h=>.inl h,λk h=>.inr ⟨k,h,rfl⟩,λ_ _ _=>rfl,Ts _,rfl,rfl,rfl⟩
theorem Ext.trans{U ρ1 ρ2:bF}{m m1 m2:Mem}{w w1 w2:World}(a:Ext U m w ρ1 m1 w1)(b:Ext ρ1 m1 w1 ρ2 m2 w2):Ext U m w ρ2 m2 w2 where
 n:=abH a.n b.n
 aH id h:=(b.aH id (aa0 h a.n)).trans (a.aH id h)
 S x h:=b.S x (a.S x h)
 S' x h:=by
  rcases b.S' x h with h|h|⟨k,hk,he⟩
  .exact a.S' x h
  .exact .inr (.inl (abH a.size h))
  .rcases a.aQ k hk with h|⟨k0,h0,e0⟩
   .exact .inr (.inl (he▸h))
   .exact .inr (.inr ⟨k0,h0,e0.trans he⟩)
 aQ k h:=by
  rcases b.aQ k h with h|⟨k1,h1,e1⟩
  .exact .inl (abH a.size h)
  .rcases a.aQ k1 h1 with h|⟨k0,h0,e0⟩
   .exact .inl (e1▸h)
   .exact .inr ⟨k0,h0,e0.trans e1⟩
 frame x hx hk:=by
  refine(b.frame x (aa0 hx a.size) λk1 h1 e1=>?_).trans (a.frame x hx hk)
  rcases a.aQ k1 h1 with h|⟨k0,h0,e0⟩
  .omega
  .exact hk k0 h0 (e0.trans e1)
 size:=abH a.size b.size
 os:=b.os.trans a.os
 tape:=b.tape.trans a.tape
 output:=b.output.trans a.output
theorem bh.ext{U U':bF}{m m':Mem}{w w':World}(hM:au U m w)(x:Ext U m w U' m' w'){c:CC}{v:Value}(h:bh U w .none c v):bh U' w' .none c v:=by
 have hh:∀b,U.S b->w'.heap[b]? =w.heap[b]? :=λb hb=>x.frame b (hM.S b hb) λk hk e=>(hM.aQ k hk).2 (e▸hb)
 let ρ1:bF:={n:=U'.n,aH:=λk=>match k with| .al id=>U'.aH (.al id)|k=>if k.id<U.n then U.aH k else U'.aH k,S:=U'.S}
 have g:iz U w ρ1 w':=⟨x.n,λk hk=>by
  cases k with
  |al id=>exact x.aH id hk
  |sub id i j=>simp only[ρ1];rw[if_pos hk],x.S,hh⟩
 have h1:=bh.cm g aC h;cases c<;>simp only[bh]at h1|-
 case dV=>obtain⟨_,_,_,e,_⟩:=h1;cases e
 all_goals exact h1
theorem dq.ext{U U':bF}{m m':Mem}{w w':World}(hM:au U m w)(x:Ext U m w U' m' w'){r:RV}{v:Value}(h:dq U w r v):dq U' w' r v:=by
 cases r with
 |one c=>exact bh.ext hM x h
 |agg cs=>
  obtain⟨vs,hv,hl,hc⟩:=h;exact⟨vs,hv,hl,λi c hi=>let⟨u,hu,hd⟩:=hc i c hi;⟨u,hu,bh.ext hM x hd⟩⟩
theorem bZ.ext{U U':bF}{m m':Mem}{w w':World}(hM:au U m w)(x:Ext U m w U' m' w'){c:CV}{v:Value}(h:bZ U w c v):bZ U' w' c v:=by
 cases c with
 |ap=>trivial
 |undef=>exact h
 |rv r=>exact dq.ext hM x h
 |bz rs=>
  obtain⟨vs,hv,hl,hc⟩:=h;exact⟨vs,hv,hl,λi c hi=>let⟨u,hu,hd⟩:=hc i c hi;⟨u,hu,dq.ext hM x hd⟩⟩
end Go.AM
