/- Part 1 of 18. -/
import Derived.Calls
import Derived.Laws.AppendOwn
import Derived.Laws.Cells
import Derived.Laws.Tables
import Derived.Laws.Entries
import Derived.Below
import Derived.Deep.Quiet
set_option linter.unusedVariables false
set_option linter.unusedSimpArgs false
set_option linter.unnecessarySimpa false
set_option maxRecDepth 100000
set_option maxHeartbeats 0
namespace Go.AM
abbrev IE:=@List.getElem?_eq_getElem
abbrev Mh:=@List.getElem?_eq_some_iff
abbrev Nq:=@List.length_map
abbrev Q6:=@Option.bind_eq_some_iff
abbrev Q8:=@List.getElem?_map
abbrev Rq:=@List.mem_of_getElem?
abbrev SR:=@Option.bind_eq_bind
abbrev SS:=@Nat.le_refl
abbrev Wi:=@Nat.zero_le
abbrev Wl:=@List.getElem?_set_self
abbrev Xf:=@List.getElem?_of_mem
abbrev X5:=@Nat.le_of_ble_eq_true
abbrev ZM:=@Bool.and_eq_true
abbrev ZW:=@List.getElem?_append_right
abbrev ZX:=@Nat.lt_or_ge
abbrev ZY:=@List.getElem?_append_left
abbrev ZZ:=@List.getElem?_set_ne
abbrev Z0:=@List.getElem_mem
abbrev Z1:=@List.eq_nil_of_length_eq_zero
abbrev Z2:=@Nat.eq_of_beq_eq_true
abbrev Z3:=@Int.toNat_natCast
abbrev Z4:=@List.length_take
abbrev aag:=@Option.some.injEq
abbrev aar:=@List.length_cons
abbrev aaG:=@Option.map_some
abbrev aaH:=@Classical.byContradiction
abbrev aaI:=@Option.map_eq_some_iff
abbrev aaJ:=@List.length_set
abbrev aaK:=@Array.getElem?_eq_some_iff
abbrev aaQ:=@List.mem_map
abbrev aaX:=@List.mem_or_eq_of_mem_set
abbrev abb:=@Nat.not_lt_zero
abbrev abg:=@List.getElem?_eq_none
abbrev abh:=@Nat.lt_of_lt_of_le
abbrev abm:=@List.getElem?_take
abbrev abn:=@List.map_append
abbrev abo:=@List.mem_cons
abbrev abp:=@List.take_length
abbrev abq:=@Nat.mul_le_mul_right
abbrev abr:=@Nat.ble_eq
abbrev abt:=@List.any_eq_true
abbrev abv:=@List.map_cons
abbrev abw:=@List.getElem?_set
abbrev abx:=@Nat.zero_add
abbrev aby:=@List.length_nil
abbrev abz:=@List.findIdx?_eq_some_iff_getElem
abbrev abA:=@Nat.add_assoc
abbrev abB:=@Nat.eq_zero_or_pos
abbrev abC:=@List.mem_of_mem_take
abbrev abD:=@List.getElem?_mapIdx
abbrev abE:=@Nat.add_mul
abbrev abF:=@List.ext_getElem?
abbrev abG:=@List.getElem?_drop
abbrev abH:=@List.all_eq_true
abbrev abI:=@Option.getD_some
abbrev abJ:=@List.map_set
abbrev abK:=@List.length_drop
abbrev abL:=@List.mem_append
abbrev abM:=@List.take_add_one
abbrev abN:=@Array.getElem?_modify
abbrev abO:=@List.length_append
abbrev abP:=@Array.getD_eq_getD_getElem?
abbrev abQ:=@List.length_mapIdx
abbrev abR:=@Array.getElem?_eq_getElem
abbrev abS:=@List.take_of_length_le
abbrev abT:=@Nat.le_trans
abbrev abU:=@Nat.blt_eq
abbrev abV:=@Bool.false_eq_true
abbrev abW:=@List.map_map
abbrev abX:=@Bool.not_eq_true'
abbrev abY:=@List.getElem?_cons_succ
abbrev abZ:=@Bool.or_eq_true
abbrev ab0:=@List.getElem?_eq_none_iff
abbrev ab1:=@List.getElem?_take_of_lt
abbrev ab2:=@Bool.false_or
abbrev ab3:=@Nat.one_mul
abbrev ab4:=@Array.ext'
abbrev ab5:=@List.append_nil
abbrev ab6:=@List.pairwise_iff_getElem
abbrev ab7:=@Nat.lt_succ_self
abbrev ab8:=@Array.getElem?_setIfInBounds
abbrev ab9:=@Array.length_toList
abbrev aca:=@List.mem_singleton
abbrev acb:=@Array.getElem?_toList
abbrev acd:=@List.eq_of_mem_replicate
abbrev ace:=@List.mem_of_mem_drop
abbrev acf:=@Function.comp_def
abbrev acg:=@Array.getElem?_setIfInBounds_self_of_lt
abbrev ach:=@List.map_congr_left
abbrev aci:=@Nat.sub_zero
abbrev acj:=@List.nodup_cons
abbrev ack:=@List.length_filter_le
abbrev acm:=@Bool.true_and
abbrev acn:=@Array.getElem?_append_left
abbrev aco:=@List.findIdx?_eq_none_iff
abbrev acp:=@List.not_mem_nil
abbrev acq:=@List.set_set
abbrev acr:=@Array.getElem?_setIfInBounds_ne
abbrev acs:=@List.getElem?_cons_zero
abbrev acu:=@List.map_take
abbrev acv:=@List.any_cons
abbrev acw:=@List.pairwise_cons
abbrev acx:=@Nat.ne_of_beq_eq_false
abbrev acy:=@Option.getD_none
abbrev acz:=@Bool.and_eq_true_iff
abbrev acB:=@Bool.or_eq_false_iff
abbrev acC:=@Bool.not_eq_true
abbrev acD:=@List.mem_cons_of_mem
abbrev acE:=@List.getElem_of_mem
abbrev acF:=@List.drop_eq_getElem_cons
abbrev acG:=@List.exists_mem_of_ne_nil
abbrev acH:=@Nat.sub_self
abbrev acI:=@Nat.add_zero
abbrev acJ:=@Nat.mul_comm
abbrev acK:=@List.getElem?_replicate
abbrev acL:=@Nat.le_mul_of_pos_right
abbrev acM:=@List.append_assoc
abbrev acN:=@Nat.lt_trichotomy
abbrev acP:=@Int.le_refl
abbrev acQ:=@List.drop_eq_nil_of_le
abbrev acR:=@List.range'_succ
abbrev acS:=@Nat.lt_of_not_le
abbrev acT:=@List.take_append_drop
abbrev acU:=@List.set_append_right
abbrev acX:=@Bool.and_eq_false_iff
abbrev acY:=@Array.mem_toList_iff
abbrev acZ:=@Nat.min_eq_left
abbrev ac0:=@List.map_nil
abbrev ac1:=@Nat.beq_refl
abbrev ac2:=@Bool.eq_iff_iff
abbrev ac3:=@Option.some.inj
abbrev ac4:=@List.filter_eq_self
abbrev ac5:=@List.length_pos_iff
abbrev ac6:=@List.drop_zero
abbrev ac7:=@Array.getElem?_map
abbrev ac8:=@List.find?_eq_none
abbrev ac9:=@List.filter_append
abbrev ada:=@Bool.and_true
abbrev adb:=@Bool.not_true
abbrev ade:=@List.map_drop
abbrev adf:=@List.any_eq_false
abbrev adi:=@Nat.mod_eq_of_lt
abbrev adj:=@List.cons_append
abbrev adk:=@List.filter_cons
abbrev adn:=@List.cons.injEq
abbrev ado:=@Nat.mul_add_mod
abbrev adp:=@List.nil_append
abbrev adq:=@List.mem_filter
abbrev adr:=@List.range_succ
abbrev ads:=@Nat.sub_mul
abbrev adt:=@Nat.min_def
theorem om{p:Prop}(h:p:=by omega):p:=h
theorem aG{p:Prop}(h:p:=by simp):p:=h
end Go.AM
namespace Go.AM
inductive Dt where
 |val (v:Value)
 |sl (esz:Nat) (elems:List (List Dt))
inductive CC where
 |aq
 |aa (d:Dt)
 |ptr (id j:Nat)
 |mM (id esz i j:Nat)
 |qB (cs:List Dt)
 |row (id esz lo:Nat) (hi:Option Nat)
 |aI
 |map (id:Nat)
 |fn (f:Nat) (ei:List Nat)
 |gO (esz:Nat) (elems:List (List Dt))
inductive RV where
 |one (c:CC)
 |agg (cs:List CC)
inductive CV where
 |aq
 |undef
 |rv (r:RV)
 |bK (rs:List RV)
structure ME where
 key:Value
 val:RV
inductive Bk where
 |aW
 |var (cs:List CC)
 |row (esz:Nat) (elems:List (List CC))
 |mp (es:List ME)
 |it (cur left:List (Value×Value))
abbrev Mem:=List Bk
structure St where
 a8:List CV
 mem:Mem
structure wW where
 b:Nat
 aA:Nat
 len:Nat
 cap:Nat
inductive jz where
 |ar (id:Nat)
 |sub (id i j:Nat)
def jz.id:jz->Nat
 | .ar id=>id
 | .sub id _ _=>id
structure bQ where
 n:Nat
 aV:jz->wW
 S:Nat->Prop
def cZ:Value->Bool
 | .bool _| .int _ _| .string _| .pointer none| .nilFunc| .map none| .nilIface=>true
 |_=>false
theorem cZ.one{v:Value}(h:cZ v=true):v.oneCell'=true:=by
 cases v<;>simp_all[cZ,Value.oneCell']
inductive dv(S:Nat->Prop)(w:World):Dt->Value->Prop
 |val (v:Value) (h:cZ v=true):dv S w (.val v) v
 |no (a:Option Addr):dv S w (.val (.slice none 0 0)) (.slice a 0 0)
 |nil (esz:Nat) (a:Option Addr) (cap:Nat) (hc:cap<=maxLen):dv S w (.sl esz []) (.slice a 0 cap)
 |sl (esz:Nat) (elems:List (List Dt)) (b off cap:Nat) (u:Nat->Nat->Value) (hS:S b) (hl:elems.length<=cap) (bq:cap<=maxLen)
   (dN:∀cs,cs∈elems->cs.length=esz)
   (hc:∀i cs j d,elems[i]? =some cs->cs[j]? =some d->w.cell? ⟨b,off+i*esz+j,none⟩=some (u i j))
   (hd:∀i cs j d,elems[i]? =some cs->cs[j]? =some d->dv S w d (u i j)):
   dv S w (.sl esz elems) (.slice (some ⟨b,off,none⟩) elems.length cap)
theorem dv.one{S:Nat->Prop}{w:World}{d:Dt}{v:Value}(h:dv S w d v):v.oneCell'=true:=by
 cases h with
 |val v h=>exact cZ.one h
 |no=>rfl
 |nil=>rfl
 |sl=>rfl
theorem dv.mono{S S':Nat->Prop}{w w':World}(hS:∀b,S b->S' b)(hw:∀b,S b->w'.heap[b]? =w.heap[b]?){d:Dt}{v:Value}(h:dv S w d v):dv S' w' d v:=by
 induction h with
 |val v h=>exact .val v h
 |no a=>exact .no a
 |nil esz a cap hc=>exact .nil esz a cap hc
 |sl esz elems b off cap u hb hl bq dN hc hd ih=>
  exact .sl esz elems b off cap u (hS b hb) hl bq dN
   (fun i cs j d hi hj=>by rw[World.cell?_of_block (a:=⟨b,off+i*esz+j,none⟩) (hw b hb)];exact hc i cs j d hi hj) ih
def bC(ρ:bQ)(w:World)(pos:Option (Nat×Nat×Nat)):CC->Value->Prop
 | .aq,v=>v.oneCell'=true
 | .aa d,v=>dv ρ.S w d v
 | .ptr id j,v=>id<ρ.n/\v= .pointer (some ⟨(ρ.aV (.ar id)).b,(ρ.aV (.ar id)).aA+j,none⟩)
 | .mM id esz i j,v=>id<ρ.n/\v= .pointer (some ⟨(ρ.aV (.ar id)).b,(ρ.aV (.ar id)).aA+i*esz+j,none⟩)
 | .qB cs,v=>∃b off,v= .pointer (some ⟨b,off,none⟩)/\ρ.S b/\∀j d,cs[j]? =some d->∃u,w.cell? ⟨b,off+j,none⟩=some u/\dv ρ.S w d u
 | .row id esz lo hi,v=>id<ρ.n/\lo<=hi.getD (ρ.aV (.ar id)).len/\hi.getD (ρ.aV (.ar id)).len<=(ρ.aV (.ar id)).len/\(ρ.aV (.ar id)).len<=(ρ.aV (.ar id)).cap/\(ρ.aV (.ar id)).cap<=maxLen/\
   ∃a,v= .slice a (hi.getD (ρ.aV (.ar id)).len-lo) ((ρ.aV (.ar id)).cap-lo)/\(lo<(ρ.aV (.ar id)).cap->a=some ⟨(ρ.aV (.ar id)).b,(ρ.aV (.ar id)).aA+lo*esz,none⟩)
 | .aI,v=>∃a,v= .slice a 0 0
 | .map id,v=>id<ρ.n/\v= .map (some (ρ.aV (.ar id)).b)
 | .fn f ei,v=>(∀id,id∈ei->id<ρ.n)/\
   v= .func (.func f) #[] (ei.map fun id=>Value.pointer (some ⟨(ρ.aV (.ar id)).b,(ρ.aV (.ar id)).aA,none⟩)).toArray
 | .gO esz elems,v=>∃id i j,pos=some (id,i,j)/\elems.length<=(ρ.aV (.sub id i j)).cap/\(ρ.aV (.sub id i j)).cap<=maxLen/\
   ∃a,v= .slice a elems.length (ρ.aV (.sub id i j)).cap/\
    (0<(ρ.aV (.sub id i j)).cap->a=some ⟨(ρ.aV (.sub id i j)).b,(ρ.aV (.sub id i j)).aA,none⟩)
theorem bC.one{ρ:bQ}{w:World}{pos:Option (Nat×Nat×Nat)}{c:CC}{v:Value}(h:bC ρ w pos c v):v.oneCell'=true:=by
 cases c<;>simp only[bC]at h
 case aq=>exact h
 case aa=>exact h.one
 case ptr=>rw[h.2];rfl
 case mM=>rw[h.2];rfl
 case qB=>obtain⟨_,_,rfl,_⟩:=h;rfl
 case row=>obtain⟨_,_,_,_,_,_,rfl,_⟩:=h;rfl
 case aI=>obtain⟨_,rfl⟩:=h;rfl
 case map=>rw[h.2];rfl
 case fn=>rw[h.2];rfl
 case gO=>obtain⟨_,_,_,_,_,_,_,rfl,_⟩:=h;rfl
structure iD(ρ:bQ)(w:World)(ρ':bQ)(w':World):Prop where
 n:ρ.n<=ρ'.n
 aV:∀k:jz,k.id<ρ.n->ρ'.aV k=ρ.aV k
 S:∀b,ρ.S b->ρ'.S b
 heap:∀b,ρ.S b->w'.heap[b]? =w.heap[b]?
theorem bC.cQ{ρ ρ':bQ}{w w':World}{pos:Option (Nat×Nat×Nat)}(g:iD ρ w ρ' w')(hp:∀id i j,pos=some (id,i,j)->id<ρ.n){c:CC}{v:Value}(h:bC ρ w pos c v):bC ρ' w' pos c v:=by
 cases c<;>simp only[bC]at h⊢
 case aq=>exact h
 case aa=>exact h.mono g.S g.heap
 case ptr id j=>rw[g.aV (.ar id) h.1];exact⟨abh h.1 g.n,h.2⟩
 case mM id _ _ _=>rw[g.aV (.ar id) h.1];exact⟨abh h.1 g.n,h.2⟩
 case qB cs=>
  obtain⟨b,off,hv,hb,hc⟩:=h;refine⟨b,off,hv,g.S b hb,fun j d hj=>?_⟩
  obtain⟨u,hu,hd⟩:=hc j d hj;exact⟨u,by rw[World.cell?_of_block (a:=⟨b,off+j,none⟩) (g.heap b hb)];exact hu,hd.mono g.S g.heap⟩
 case row id _ _ _=>rw[g.aV (.ar id) h.1];exact⟨abh h.1 g.n,h.2⟩
 case aI=>exact h
 case map id=>rw[g.aV (.ar id) h.1];exact⟨abh h.1 g.n,h.2⟩
 case fn f ei=>
  refine⟨fun id hid=>abh (h.1 id hid) g.n,?_⟩
  rw[h.2];congr 2;refine ach fun id hid=>?_
  rw[g.aV (.ar id) (h.1 id hid)]
 case gO esz elems=>
  obtain⟨id,i,j,dz,qC⟩:=h;refine⟨id,i,j,dz,?_⟩;rw[g.aV (.sub id i j) (hp id i j dz)];exact qC
def dP(ρ:bQ)(w:World):RV->Value->Prop
 | .one c,v=>bC ρ w .none c v
 | .agg cs,v=>∃vs:List Value,v= .agg vs.toArray/\vs.length=cs.length/\∀(i:Nat)c,cs[i]? =some c->∃u,vs[i]? =some u/\bC ρ w .none c u
theorem dP.cQ{ρ ρ':bQ}{w w':World}(g:iD ρ w ρ' w'){r:RV}{v:Value}(h:dP ρ w r v):dP ρ' w' r v:=by
 cases r with
 |one c=>exact bC.cQ g aG h
 |agg cs=>
  obtain⟨vs,hv,hl,hc⟩:=h;exact⟨vs,hv,hl,fun i c hi=>let⟨u,hu,hd⟩:=hc i c hi;⟨u,hu,bC.cQ g aG hd⟩⟩
def cm(ρ:bQ)(w:World):CV->Value->Prop
 | .aq,_=>True
 | .undef,v=>v=Go.undef
 | .rv r,v=>dP ρ w r v
 | .bK rs,v=>∃vs:List Value,v= .tuple vs.toArray/\vs.length=rs.length/\∀(i:Nat)r,rs[i]? =some r->∃u,vs[i]? =some u/\dP ρ w r u
theorem cm.cQ{ρ ρ':bQ}{w w':World}(g:iD ρ w ρ' w'){c:CV}{v:Value}(h:cm ρ w c v):cm ρ' w' c v:=by
 cases c with
 |aq=>trivial
 |undef=>exact h
 |rv r=>exact dP.cQ g h
 |bK rs=>
  obtain⟨vs,hv,hl,hc⟩:=h;exact⟨vs,hv,hl,fun i c hi=>let⟨u,hu,hd⟩:=hc i c hi;⟨u,hu,dP.cQ g hd⟩⟩
def lS(mk:Prop)(w:World)(b:Nat)(cur:Array Value):Prop:=
 ∃ty fr,w.heap[b]? =some (.cells cur ty fr)/\fr.1<=fr.2/\(∀i,i<cur.size->(decide (fr.1<=i)&&decide (i<fr.2))=false)/\(mk\/fr.2<=cur.size)
theorem lS.lt{mk:Prop}{w:World}{b:Nat}{cur:Array Value}(h:lS mk w b cur):b<w.heap.size:=by obtain⟨ty,fr,h,_⟩:=h;exact(aaK.1 h).1
theorem lS.cell{mk:Prop}{w:World}{b:Nat}{cur:Array Value}(h:lS mk w b cur)(i:Nat):w.cell? ⟨b,i,none⟩=cur[i]? :=by obtain⟨ty,fr,h,_⟩:=h;exact cell_of_row w b i cur ty fr h
theorem lS.pG{mk:Prop}{w:World}{b:Nat}{cur:Array Value}(h:lS mk w b cur){i:Nat}(hi:i<cur.size):w.frozen? ⟨b,i,none⟩=false:=by obtain⟨ty,fr,h,_,hf,_⟩:=h;simpa[World.frozen?,h]using hf i hi
theorem lS.dn{mk:Prop}{w w':World}{b:Nat}{cur:Array Value}(h:lS mk w b cur)(hb:w'.heap[b]? =w.heap[b]?):lS mk w' b cur:=by obtain⟨ty,fr,h,hf⟩:=h;exact⟨ty,fr,hb.trans h,hf⟩
theorem lS.new{mk:Prop}(w:World)(cur:Array Value)(ty:TypeId):lS mk (w.alloc (.cells cur ty)) w.heap.size cur:=
 ⟨ty,(0,0),heap_alloc_new w _,SS _,(by intro i _;simp),.inr (Wi _)⟩
def Di(ρ:bQ)(w:World)(es:List ME)(c6:Array MapEntry):Prop:=
 c6.size=es.length/\∀(i:Nat)e,es[i]? =some e->∃e',c6[i]? =some e'/\e'.key=e.key/\dP ρ w e.val e'.val
def ng(c6:Array MapEntry)(clock:Nat):Prop:=(∀e,e∈c6.toList->e.born<clock)/\(c6.toList.map (·.born)).Nodup
def Uo(seen:Array Nat)(c6:Array MapEntry)(cur left:List (Value×Value)):Prop:=
 ((c6.filter fun e=>!seen.contains e.born).toList.map fun e=>(e.key,e.val))=left/\(∀p,p∈cur->∃(e:MapEntry)(J7:Array Nat),e∈c6.toList/\seen=J7.push e.born/\(e.key,e.val)=p)/\∀p,p∈left\/p∈cur->cZ p.1=true/\cZ p.2=true
def d8(ρ:bQ)(w:World)(id:Nat):Bk->Prop
 | .aW=>True
 | .var cs=>∃cur,lS True w (ρ.aV (.ar id)).b cur/\∀(j:Nat)c,cs[j]? =some c->∃u,cur[(ρ.aV (.ar id)).aA+j]? =some u/\bC ρ w .none c u
 | .row esz elems=>elems.length=(ρ.aV (.ar id)).len/\(ρ.aV (.ar id)).len<=(ρ.aV (.ar id)).cap/\(ρ.aV (.ar id)).cap<=maxLen/\(∀cs,cs∈elems->cs.length=esz)/\
   (0<(ρ.aV (.ar id)).cap->∃cur,lS (esz=1) w (ρ.aV (.ar id)).b cur/\(ρ.aV (.ar id)).aA+(ρ.aV (.ar id)).cap*esz<=cur.size/\
    ∀(i:Nat)cs(j:Nat)c,elems[i]? =some cs->cs[j]? =some c->∃u,cur[(ρ.aV (.ar id)).aA+i*esz+j]? =some u/\bC ρ w (some (id,i,j)) c u)
 | .mp es=>∃c6 clock,(w.heap[(ρ.aV (.ar id)).b]? =some (.map c6 clock)/\ng c6 clock)/\Di ρ w es c6
 | .it cur left=>∃mb seen clock c6,w.heap[(ρ.aV (.ar id)).b]? =some (.mapIter (some mb) clock seen clock)/\(ρ.aV (.ar id)).aA=0/\ρ.S mb/\w.heap[mb]? =some (.map c6 clock)/\ng c6 clock/\Uo seen c6 cur left
def fJ(m:Mem)(id i j esz:Nat)(elems:List (List Dt)):Prop:=
 ∃es rows cs,m[id]? =some (.row es rows)/\rows[i]? =some cs/\cs[j]? =some (.gO esz elems)
def y3(ρ:bQ)(w:World)(l:wW)(esz:Nat)(elems:List (List Dt)):Prop:=
 ∃cur,lS True w l.b cur/\l.aA+l.cap*esz<=cur.size/\(∀cs,cs∈elems->cs.length=esz)/\
  ∀(i:Nat)cs(j:Nat)d,elems[i]? =some cs->cs[j]? =some d->∃u,cur[l.aA+i*esz+j]? =some u/\dv ρ.S w d u
def Live(ρ:bQ)(m:Mem):jz->Prop
 | .ar id=>∃bk,m[id]? =some bk/\bk≠.aW/\((∃esz elems,bk= .row esz elems)->0<(ρ.aV (.ar id)).cap)
 | .sub id i j=>(∃esz elems,fJ m id i j esz elems)/\0<(ρ.aV (.sub id i j)).cap
structure aL(ρ:bQ)(m:Mem)(w:World):Prop where
 n:ρ.n=m.length
 S:∀b,ρ.S b->b<w.heap.size
 aQ:∀k,Live ρ m k->(ρ.aV k).b<w.heap.size/\¬ρ.S (ρ.aV k).b
 inj:∀k k',Live ρ m k->Live ρ m k'->(ρ.aV k).b=(ρ.aV k').b->k=k'
 bk:∀(id:Nat)b,m[id]? =some b->d8 ρ w id b
 gO:∀id i j esz elems,fJ m id i j esz elems->0<(ρ.aV (.sub id i j)).cap->y3 ρ w (ρ.aV (.sub id i j)) esz elems
theorem Live.fS{ρ:bQ}{m:Mem}{k:jz}(h:Live ρ m k):k.id<m.length:=by
 cases k with
 |ar id=>obtain⟨bk,h,_⟩:=h;exact(Mh.1 h).1
 |sub id i j=>obtain⟨⟨_,_,_,_,_,h,_⟩,_⟩:=h;exact(Mh.1 h).1
structure Ext(ρ:bQ)(m:Mem)(w:World)(ρ':bQ)(m':Mem)(w':World):Prop where
 n:ρ.n<=ρ'.n
 aV:∀id,id<ρ.n->ρ'.aV (.ar id)=ρ.aV (.ar id)
 S:∀b,ρ.S b->ρ'.S b
 S':∀b,ρ'.S b->ρ.S b\/w.heap.size<=b\/∃k,Live ρ m k/\(ρ.aV k).b=b
 aQ:∀k,Live ρ' m' k->w.heap.size<=(ρ'.aV k).b\/∃k0,Live ρ m k0/\(ρ.aV k0).b=(ρ'.aV k).b
 frame:∀b,b<w.heap.size->(∀k,Live ρ m k->(ρ.aV k).b≠b)->w'.heap[b]? =w.heap[b]?
 size:w.heap.size<=w'.heap.size
 os:w'.os=w.os
 tape:w'.tape=w.tape
 output:w'.output=w.output
theorem Ext.refl(ρ:bQ)(m:Mem)(w:World):Ext ρ m w ρ m w:=
 ⟨SS _,fun _ _=>rfl,fun _ h=>h,fun _ h=>.inl h,fun k h=>.inr ⟨k,h,rfl⟩,fun _ _ _=>rfl,SS _,rfl,rfl,rfl⟩
theorem Ext.trans{ρ ρ1 ρ2:bQ}{m m1 m2:Mem}{w w1 w2:World}(a:Ext ρ m w ρ1 m1 w1)(b:Ext ρ1 m1 w1 ρ2 m2 w2):Ext ρ m w ρ2 m2 w2 where
 n:=abT a.n b.n
 aV id h:=(b.aV id (abh h a.n)).trans (a.aV id h)
 S x h:=b.S x (a.S x h)
 S' x h:=by
  rcases b.S' x h with h|h|⟨k,hk,he⟩
  .exact a.S' x h
  .exact .inr (.inl (abT a.size h))
  .rcases a.aQ k hk with h|⟨k0,h0,e0⟩
   .exact .inr (.inl (he▸h))
   .exact .inr (.inr ⟨k0,h0,e0.trans he⟩)
 aQ k h:=by
  rcases b.aQ k h with h|⟨k1,h1,e1⟩
  .exact .inl (abT a.size h)
  .rcases a.aQ k1 h1 with h|⟨k0,h0,e0⟩
   .exact .inl (e1▸h)
   .exact .inr ⟨k0,h0,e0.trans e1⟩
 frame x hx hk:=by
  refine(b.frame x (abh hx a.size) fun k1 h1 e1=>?_).trans (a.frame x hx hk)
  rcases a.aQ k1 h1 with h|⟨k0,h0,e0⟩
  .omega
  .exact hk k0 h0 (e0.trans e1)
 size:=abT a.size b.size
 os:=b.os.trans a.os
 tape:=b.tape.trans a.tape
 output:=b.output.trans a.output
theorem bC.ext{ρ ρ':bQ}{m m':Mem}{w w':World}(hM:aL ρ m w)(x:Ext ρ m w ρ' m' w'){c:CC}{v:Value}(h:bC ρ w .none c v):bC ρ' w' .none c v:=by
 have hh:∀b,ρ.S b->w'.heap[b]? =w.heap[b]? :=fun b hb=>x.frame b (hM.S b hb) fun k hk e=>(hM.aQ k hk).2 (e▸hb)
 let ρ1:bQ:={n:=ρ'.n,aV:=fun k=>match k with| .ar id=>ρ'.aV (.ar id)|k=>if k.id<ρ.n then ρ.aV k else ρ'.aV k,S:=ρ'.S}
 have g:iD ρ w ρ1 w':=⟨x.n,fun k hk=>by
  cases k with
  |ar id=>exact x.aV id hk
  |sub id i j=>simp only[ρ1];rw[if_pos hk],x.S,hh⟩
 have h1:=bC.cQ g aG h;cases c<;>simp only[bC]at h1⊢
 case gO=>obtain⟨_,_,_,e,_⟩:=h1;cases e
 all_goals exact h1
theorem dP.ext{ρ ρ':bQ}{m m':Mem}{w w':World}(hM:aL ρ m w)(x:Ext ρ m w ρ' m' w'){r:RV}{v:Value}(h:dP ρ w r v):dP ρ' w' r v:=by
 cases r with
 |one c=>exact bC.ext hM x h
 |agg cs=>
  obtain⟨vs,hv,hl,hc⟩:=h;exact⟨vs,hv,hl,fun i c hi=>let⟨u,hu,hd⟩:=hc i c hi;⟨u,hu,bC.ext hM x hd⟩⟩
theorem cm.ext{ρ ρ':bQ}{m m':Mem}{w w':World}(hM:aL ρ m w)(x:Ext ρ m w ρ' m' w'){c:CV}{v:Value}(h:cm ρ w c v):cm ρ' w' c v:=by
 cases c with
 |aq=>trivial
 |undef=>exact h
 |rv r=>exact dP.ext hM x h
 |bK rs=>
  obtain⟨vs,hv,hl,hc⟩:=h;exact⟨vs,hv,hl,fun i c hi=>let⟨u,hu,hd⟩:=hc i c hi;⟨u,hu,dP.ext hM x hd⟩⟩
end Go.AM
