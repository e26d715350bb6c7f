/- Part 1 of 41: what the law stands on. -/
import Derived.Calls
import Derived.Laws.AppendOwn
import Derived.Laws.Cells
import Derived.Laws.Tables
import Derived.Laws.Entries
import Derived.Below
import Derived.Deep.Quiet
set_option linter.unusedVariables false
set_option linter.unusedSimpArgs false
set_option linter.unnecessarySimpa false
set_option maxRecDepth 100000
set_option maxHeartbeats 64000000
namespace Go.AM
abbrev tq:=@List.getElem?_eq_getElem
abbrev Hy:=@List.getElem?_eq_some_iff
abbrev KG:=@Option.bind_eq_some_iff
abbrev LW:=@List.length_map
abbrev O6:=@List.getElem?_map
abbrev O9:=@List.mem_of_getElem?
abbrev Pq:=@Option.bind_eq_bind
abbrev QN:=@Nat.le_refl
abbrev QO:=@List.getElem?_set_self
abbrev T3:=@Nat.le_of_ble_eq_true
abbrev T6:=@Bool.and_eq_true
abbrev UX:=@List.getElem?_append_right
abbrev VO:=@List.getElem?_append_left
abbrev Xz:=@List.getElem?_of_mem
abbrev XJ:=@List.eq_nil_of_length_eq_zero
abbrev XK:=@List.getElem?_set_ne
abbrev XL:=@Nat.zero_le
abbrev XM:=@Nat.eq_of_beq_eq_true
abbrev XN:=@Nat.lt_or_ge
abbrev XO:=@Int.toNat_natCast
abbrev XP:=@List.getElem_mem
abbrev XQ:=@Option.some.injEq
abbrev XR:=@List.length_cons
abbrev XS:=@Option.map_some
abbrev ZM:=@Classical.byContradiction
abbrev Z2:=@Option.map_eq_some_iff
abbrev Z3:=@List.length_take
abbrev aab:=@List.length_set
abbrev aac:=@Array.getElem?_eq_some_iff
abbrev aad:=@List.mem_cons
abbrev aae:=@List.mem_map
abbrev aaf:=@Nat.lt_of_lt_of_le
abbrev aag:=@List.mem_or_eq_of_mem_set
abbrev aaj:=@List.getElem?_eq_none
abbrev aak:=@Nat.zero_add
abbrev aal:=@Nat.not_lt_zero
abbrev aam:=@Nat.mul_le_mul_right
abbrev aan:=@List.take_length
abbrev aao:=@List.getElem?_take
abbrev aap:=@Nat.ble_eq
abbrev aaq:=@List.getElem?_set
abbrev aar:=@List.findIdx?_eq_some_iff_getElem
abbrev aas:=@List.all_eq_true
abbrev aat:=@List.length_nil
abbrev aau:=@Nat.add_assoc
abbrev aav:=@Nat.eq_zero_or_pos
abbrev aaw:=@List.length_append
abbrev aax:=@List.map_append
abbrev aay:=@List.map_cons
abbrev aaz:=@Nat.add_mul
abbrev aaA:=@List.getElem?_drop
abbrev aaB:=@List.mem_of_mem_take
abbrev aaC:=@Nat.le_trans
abbrev aaD:=@Option.getD_some
abbrev aaE:=@List.length_drop
abbrev aaF:=@List.mem_append
abbrev aaG:=@List.map_set
abbrev aaH:=@List.any_eq_true
abbrev aaI:=@List.ext_getElem?
abbrev aaJ:=@Array.getElem?_modify
abbrev aaK:=@Array.getD_eq_getD_getElem?
abbrev aaL:=@List.take_add_one
abbrev aaM:=@Array.getElem?_eq_getElem
abbrev aaN:=@List.map_map
abbrev aaO:=@Nat.blt_eq
abbrev aaP:=@Bool.not_eq_true'
abbrev aaQ:=@List.getElem?_cons_succ
abbrev aaR:=@Bool.false_eq_true
abbrev aaS:=@List.not_mem_nil
abbrev aaT:=@Bool.or_eq_true
abbrev aaU:=@Nat.one_mul
abbrev aaV:=@List.take_of_length_le
abbrev aaW:=@Array.length_toList
abbrev aaX:=@Array.ext'
abbrev aaY:=@List.pairwise_iff_getElem
abbrev aaZ:=@Nat.lt_succ_self
abbrev aa0:=@List.length_mapIdx
abbrev aa1:=@Array.getElem?_setIfInBounds
abbrev aa2:=@List.getElem?_mapIdx
abbrev aa3:=@Array.getElem?_toList
abbrev aa4:=@List.eq_of_mem_replicate
abbrev aa5:=@List.mem_of_mem_drop
abbrev aa6:=@List.append_nil
abbrev abb:=@Array.getElem?_setIfInBounds_self_of_lt
abbrev abc:=@List.map_take
abbrev abd:=@List.map_congr_left
abbrev abe:=@List.drop_zero
abbrev abf:=@Nat.sub_zero
abbrev abg:=@List.mem_singleton
abbrev abh:=@List.nodup_cons
abbrev abi:=@List.length_filter_le
abbrev abl:=@Option.some.inj
abbrev abm:=@Array.getElem?_append_left
abbrev abn:=@List.findIdx?_eq_none_iff
abbrev abp:=@List.set_set
abbrev abq:=@List.getElem?_range
abbrev abr:=@Array.getElem?_setIfInBounds_ne
abbrev abt:=@List.getElem?_cons_zero
abbrev abu:=@List.pairwise_cons
abbrev abv:=@Nat.ne_of_beq_eq_false
abbrev abw:=@List.append_assoc
abbrev abx:=@Nat.ble_eq_true_of_le
abbrev aby:=@List.cons_append
abbrev abz:=@Option.getD_none
abbrev abA:=@Bool.and_eq_true_iff
abbrev abB:=@Bool.not_eq_true
abbrev abC:=@List.mem_cons_of_mem
abbrev abD:=@List.map_drop
abbrev abE:=@List.getElem_of_mem
abbrev abF:=@List.drop_eq_getElem_cons
abbrev abI:=@List.getElem?_eq_none_iff
abbrev abJ:=@List.exists_mem_of_ne_nil
abbrev abK:=@Nat.sub_self
abbrev abL:=@Nat.add_zero
abbrev abM:=@Nat.mul_comm
abbrev abN:=@List.map_nil
abbrev abO:=@List.getElem?_replicate
abbrev abP:=@Nat.le_mul_of_pos_right
abbrev abQ:=@Nat.lt_trichotomy
abbrev abR:=@Function.comp_def
abbrev abS:=@List.all_eq_false
abbrev abT:=@Int.le_refl
abbrev abU:=@List.drop_eq_nil_of_le
abbrev abV:=@Bool.false_or
abbrev abW:=@List.range'_succ
abbrev abX:=@Nat.lt_of_not_le
abbrev abY:=@List.take_append_drop
abbrev abZ:=@List.set_append_right
abbrev ab0:=@Bool.and_eq_false_iff
abbrev ab1:=@Array.mem_of_getElem?
abbrev ab2:=@Array.mem_toList_iff
abbrev ab3:=@Nat.min_eq_left
abbrev ab4:=@Nat.beq_refl
abbrev ab7:=@List.filter_eq_self
abbrev ab8:=@List.length_pos_iff
abbrev acd:=@Array.getElem?_map
abbrev ace:=@List.find?_eq_none
abbrev ach:=@List.filter_append
abbrev aci:=@Bool.not_true
abbrev acm:=@Nat.mod_eq_of_lt
abbrev acn:=@List.filter_cons
abbrev acp:=@Nat.le_add_right
abbrev acr:=@Nat.mul_add_mod
abbrev acs:=@List.nil_append
abbrev acv:=@List.mem_filter
abbrev acw:=@Bool.eq_iff_iff
abbrev acx:=@Nat.sub_mul
abbrev acy:=@Nat.min_def
theorem om{p:Prop}(h:p:=by omega):p:=h
theorem aK{p:Prop}(h:p:=by simp):p:=h
end Go.AM
namespace Go.AM
inductive Dt where
 |val (v:Value)
 |sl (esz:Nat) (elems:List (List Dt))
inductive CC where
 |aq
 |aa (d:Dt)
 |ptr (id j:Nat)
 |lW (id esz i j:Nat)
 |pk (cs:List Dt)
 |row (id esz lo:Nat) (hi:Option Nat)
 |aB
 |map (id:Nat)
 |fn (f:Nat) (dN:List Nat)
 |gp (esz:Nat) (elems:List (List Dt))
inductive RV where
 |one (c:CC)
 |agg (cs:List CC)
inductive CV where
 |aq
 |undef
 |rv (r:RV)
 |bG (rs:List RV)
structure ME where
 key:Value
 val:RV
inductive Bk where
 |aZ
 |var (cs:List CC)
 |row (esz:Nat) (elems:List (List CC))
 |mp (es:List ME)
 |it (cur left:List (Value×Value))
abbrev Mem:=List Bk
structure St where
 aU:List CV
 mem:Mem
structure vU where
 b:Nat
 au:Nat
 len:Nat
 cap:Nat
inductive kW where
 |ap (id:Nat)
 |sub (id i j:Nat)
def kW.id:kW->Nat
 | .ap id=>id
 | .sub id _ _=>id
structure bH where
 n:Nat
 aO:kW->vU
 S:Nat->Prop
def cI:Value->Bool
 | .bool _| .int _ _| .string _| .pointer none| .nilFunc| .map none| .nilIface=>true
 |_=>false
theorem cI.one{v:Value}(h:cI v=true):v.oneCell'=true:=by
 cases v<;>simp_all[cI,Value.oneCell']
inductive cZ(S:Nat->Prop)(w:World):Dt->Value->Prop
 |val (v:Value) (h:cI v=true):cZ S w (.val v) v
 |no (a:Option Addr):cZ S w (.val (.slice none 0 0)) (.slice a 0 0)
 |nil (esz:Nat) (a:Option Addr) (cap:Nat) (hc:cap<=maxLen):cZ S w (.sl esz []) (.slice a 0 cap)
 |sl (esz:Nat) (elems:List (List Dt)) (b off cap:Nat) (u:Nat->Nat->Value) (hS:S b) (hl:elems.length<=cap) (bl:cap<=maxLen)
   (dj:∀cs,cs∈elems->cs.length=esz)
   (hc:∀i cs j d,elems[i]? =some cs->cs[j]? =some d->w.cell? ⟨b,off+i*esz+j,none⟩=some (u i j))
   (hd:∀i cs j d,elems[i]? =some cs->cs[j]? =some d->cZ S w d (u i j)):
   cZ S w (.sl esz elems) (.slice (some ⟨b,off,none⟩) elems.length cap)
theorem cZ.one{S:Nat->Prop}{w:World}{d:Dt}{v:Value}(h:cZ S w d v):v.oneCell'=true:=by
 cases h with
 |val v h=>exact cI.one h
 |no=>rfl
 |nil=>rfl
 |sl=>rfl
theorem cZ.mono{S S':Nat->Prop}{w w':World}(hS:∀b,S b->S' b)(hw:∀b,S b->w'.heap[b]? =w.heap[b]?){d:Dt}{v:Value}(h:cZ S w d v):cZ S' w' d v:=by
 induction h with
 |val v h=>exact .val v h
 |no a=>exact .no a
 |nil esz a cap hc=>exact .nil esz a cap hc
 |sl esz elems b off cap u hb hl bl dj hc hd ih=>
  exact .sl esz elems b off cap u (hS b hb) hl bl dj
   (fun i cs j d hi hj=>by rw[World.cell?_of_block (a:=⟨b,off+i*esz+j,none⟩) (hw b hb)];exact hc i cs j d hi hj) ih
def br(ρ:bH)(w:World)(pos:Option (Nat×Nat×Nat)):CC->Value->Prop
 | .aq,v=>v.oneCell'=true
 | .aa d,v=>cZ ρ.S w d v
 | .ptr id j,v=>id<ρ.n/\v= .pointer (some ⟨(ρ.aO (.ap id)).b,(ρ.aO (.ap id)).au+j,none⟩)
 | .lW id esz i j,v=>id<ρ.n/\v= .pointer (some ⟨(ρ.aO (.ap id)).b,(ρ.aO (.ap id)).au+i*esz+j,none⟩)
 | .pk cs,v=>∃b off,v= .pointer (some ⟨b,off,none⟩)/\ρ.S b/\∀j d,cs[j]? =some d->∃u,w.cell? ⟨b,off+j,none⟩=some u/\cZ ρ.S w d u
 | .row id esz lo hi,v=>id<ρ.n/\lo<=hi.getD (ρ.aO (.ap id)).len/\hi.getD (ρ.aO (.ap id)).len<=(ρ.aO (.ap id)).len/\(ρ.aO (.ap id)).len<=(ρ.aO (.ap id)).cap/\(ρ.aO (.ap id)).cap<=maxLen/\
   ∃a,v= .slice a (hi.getD (ρ.aO (.ap id)).len-lo) ((ρ.aO (.ap id)).cap-lo)/\(lo<(ρ.aO (.ap id)).cap->a=some ⟨(ρ.aO (.ap id)).b,(ρ.aO (.ap id)).au+lo*esz,none⟩)
 | .aB,v=>∃a,v= .slice a 0 0
 | .map id,v=>id<ρ.n/\v= .map (some (ρ.aO (.ap id)).b)
 | .fn f dN,v=>(∀id,id∈dN->id<ρ.n)/\
   v= .func (.func f) #[] (dN.map fun id=>Value.pointer (some ⟨(ρ.aO (.ap id)).b,(ρ.aO (.ap id)).au,none⟩)).toArray
 | .gp esz elems,v=>∃id i j,pos=some (id,i,j)/\elems.length<=(ρ.aO (.sub id i j)).cap/\(ρ.aO (.sub id i j)).cap<=maxLen/\
   ∃a,v= .slice a elems.length (ρ.aO (.sub id i j)).cap/\
    (0<(ρ.aO (.sub id i j)).cap->a=some ⟨(ρ.aO (.sub id i j)).b,(ρ.aO (.sub id i j)).au,none⟩)
theorem br.one{ρ:bH}{w:World}{pos:Option (Nat×Nat×Nat)}{c:CC}{v:Value}(h:br ρ w pos c v):v.oneCell'=true:=by
 cases c<;>simp only[br]at h
 case aq=>exact h
 case aa=>exact h.one
 case ptr=>rw[h.2];rfl
 case lW=>rw[h.2];rfl
 case pk=>obtain⟨_,_,rfl,_⟩:=h;rfl
 case row=>obtain⟨_,_,_,_,_,_,rfl,_⟩:=h;rfl
 case aB=>obtain⟨_,rfl⟩:=h;rfl
 case map=>rw[h.2];rfl
 case fn=>rw[h.2];rfl
 case gp=>obtain⟨_,_,_,_,_,_,_,rfl,_⟩:=h;rfl
structure ij(ρ:bH)(w:World)(ρ':bH)(w':World):Prop where
 n:ρ.n<=ρ'.n
 aO:∀k:kW,k.id<ρ.n->ρ'.aO k=ρ.aO k
 S:∀b,ρ.S b->ρ'.S b
 heap:∀b,ρ.S b->w'.heap[b]? =w.heap[b]?
theorem br.cF{ρ ρ':bH}{w w':World}{pos:Option (Nat×Nat×Nat)}(g:ij ρ w ρ' w')(hp:∀id i j,pos=some (id,i,j)->id<ρ.n){c:CC}{v:Value}(h:br ρ w pos c v):br ρ' w' pos c v:=by
 cases c<;>simp only[br]at h⊢
 case aq=>exact h
 case aa=>exact h.mono g.S g.heap
 case ptr id j=>rw[g.aO (.ap id) h.1];exact⟨aaf h.1 g.n,h.2⟩
 case lW id _ _ _=>rw[g.aO (.ap id) h.1];exact⟨aaf h.1 g.n,h.2⟩
 case pk cs=>
  obtain⟨b,off,hv,hb,hc⟩:=h;refine⟨b,off,hv,g.S b hb,fun j d hj=>?_⟩
  obtain⟨u,hu,hd⟩:=hc j d hj;exact⟨u,by rw[World.cell?_of_block (a:=⟨b,off+j,none⟩) (g.heap b hb)];exact hu,hd.mono g.S g.heap⟩
 case row id _ _ _=>rw[g.aO (.ap id) h.1];exact⟨aaf h.1 g.n,h.2⟩
 case aB=>exact h
 case map id=>rw[g.aO (.ap id) h.1];exact⟨aaf h.1 g.n,h.2⟩
 case fn f dN=>
  refine⟨fun id hid=>aaf (h.1 id hid) g.n,?_⟩
  rw[h.2];congr 2;refine abd fun id hid=>?_
  rw[g.aO (.ap id) (h.1 id hid)]
 case gp esz elems=>
  obtain⟨id,i,j,de,pl⟩:=h;refine⟨id,i,j,de,?_⟩;rw[g.aO (.sub id i j) (hp id i j de)];exact pl
def dy(ρ:bH)(w:World):RV->Value->Prop
 | .one c,v=>br ρ w .none c v
 | .agg cs,v=>∃vs:List Value,v= .agg vs.toArray/\vs.length=cs.length/\∀(i:Nat)c,cs[i]? =some c->∃u,vs[i]? =some u/\br ρ w .none c u
theorem dy.cF{ρ ρ':bH}{w w':World}(g:ij ρ w ρ' w'){r:RV}{v:Value}(h:dy ρ w r v):dy ρ' w' r v:=by
 cases r with
 |one c=>exact br.cF g aK h
 |agg cs=>
  obtain⟨vs,hv,hl,hc⟩:=h;exact⟨vs,hv,hl,fun i c hi=>let⟨u,hu,hd⟩:=hc i c hi;⟨u,hu,br.cF g aK hd⟩⟩
def bW(ρ:bH)(w:World):CV->Value->Prop
 | .aq,_=>True
 | .undef,v=>v=Go.undef
 | .rv r,v=>dy ρ w r v
 | .bG rs,v=>∃vs:List Value,v= .tuple vs.toArray/\vs.length=rs.length/\∀(i:Nat)r,rs[i]? =some r->∃u,vs[i]? =some u/\dy ρ w r u
theorem bW.cF{ρ ρ':bH}{w w':World}(g:ij ρ w ρ' w'){c:CV}{v:Value}(h:bW ρ w c v):bW ρ' w' c v:=by
 cases c with
 |aq=>trivial
 |undef=>exact h
 |rv r=>exact dy.cF g h
 |bG rs=>
  obtain⟨vs,hv,hl,hc⟩:=h;exact⟨vs,hv,hl,fun i c hi=>let⟨u,hu,hd⟩:=hc i c hi;⟨u,hu,dy.cF g hd⟩⟩
def lq(mk:Prop)(w:World)(b:Nat)(cur:Array Value):Prop:=
 ∃ty fr,w.heap[b]? =some (.cells cur ty fr)/\fr.1<=fr.2/\(∀i,i<cur.size->(decide (fr.1<=i)&&decide (i<fr.2))=false)/\(mk\/fr.2<=cur.size)
theorem lq.lt{mk:Prop}{w:World}{b:Nat}{cur:Array Value}(h:lq mk w b cur):b<w.heap.size:=by obtain⟨ty,fr,h,_⟩:=h;exact(aac.1 h).1
theorem lq.cell{mk:Prop}{w:World}{b:Nat}{cur:Array Value}(h:lq mk w b cur)(i:Nat):w.cell? ⟨b,i,none⟩=cur[i]? :=by obtain⟨ty,fr,h,_⟩:=h;exact cell_of_row w b i cur ty fr h
theorem lq.jD{mk:Prop}{w:World}{b:Nat}{cur:Array Value}(h:lq mk w b cur){i:Nat}(hi:i<cur.size):w.frozen? ⟨b,i,none⟩=false:=by obtain⟨ty,fr,h,_,hf,_⟩:=h;simpa[World.frozen?,h]using hf i hi
theorem lq.dz{mk:Prop}{w w':World}{b:Nat}{cur:Array Value}(h:lq mk w b cur)(hb:w'.heap[b]? =w.heap[b]?):lq mk w' b cur:=by obtain⟨ty,fr,h,hf⟩:=h;exact⟨ty,fr,hb.trans h,hf⟩
theorem lq.new{mk:Prop}(w:World)(cur:Array Value)(ty:TypeId):lq mk (w.alloc (.cells cur ty)) w.heap.size cur:=
 ⟨ty,(0,0),heap_alloc_new w _,QN _,(by intro i _;simp),.inr (XL _)⟩
def Cq(ρ:bH)(w:World)(es:List ME)(cJ:Array MapEntry):Prop:=
 cJ.size=es.length/\∀(i:Nat)e,es[i]? =some e->∃e',cJ[i]? =some e'/\e'.key=e.key/\dy ρ w e.val e'.val
def mD(cJ:Array MapEntry)(clock:Nat):Prop:=(∀e,e∈cJ.toList->e.born<clock)/\(cJ.toList.map (·.born)).Nodup
def RY(seen:Array Nat)(cJ:Array MapEntry)(cur left:List (Value×Value)):Prop:=
 ((cJ.filter fun e=>!seen.contains e.born).toList.map fun e=>(e.key,e.val))=left/\(∀p,p∈cur->∃(e:MapEntry)(IS:Array Nat),e∈cJ.toList/\seen=IS.push e.born/\(e.key,e.val)=p)/\∀p,p∈left\/p∈cur->cI p.1=true/\cI p.2=true
def dZ(ρ:bH)(w:World)(id:Nat):Bk->Prop
 | .aZ=>True
 | .var cs=>∃cur,lq True w (ρ.aO (.ap id)).b cur/\∀(j:Nat)c,cs[j]? =some c->∃u,cur[(ρ.aO (.ap id)).au+j]? =some u/\br ρ w .none c u
 | .row esz elems=>elems.length=(ρ.aO (.ap id)).len/\(ρ.aO (.ap id)).len<=(ρ.aO (.ap id)).cap/\(ρ.aO (.ap id)).cap<=maxLen/\(∀cs,cs∈elems->cs.length=esz)/\
   (0<(ρ.aO (.ap id)).cap->∃cur,lq (esz=1) w (ρ.aO (.ap id)).b cur/\(ρ.aO (.ap id)).au+(ρ.aO (.ap id)).cap*esz<=cur.size/\
    ∀(i:Nat)cs(j:Nat)c,elems[i]? =some cs->cs[j]? =some c->∃u,cur[(ρ.aO (.ap id)).au+i*esz+j]? =some u/\br ρ w (some (id,i,j)) c u)
 | .mp es=>∃cJ clock,(w.heap[(ρ.aO (.ap id)).b]? =some (.map cJ clock)/\mD cJ clock)/\Cq ρ w es cJ
 | .it cur left=>∃mb seen clock cJ,w.heap[(ρ.aO (.ap id)).b]? =some (.mapIter (some mb) clock seen clock)/\(ρ.aO (.ap id)).au=0/\ρ.S mb/\w.heap[mb]? =some (.map cJ clock)/\mD cJ clock/\RY seen cJ cur left
def fp(m:Mem)(id i j esz:Nat)(elems:List (List Dt)):Prop:=
 ∃es rows cs,m[id]? =some (.row es rows)/\rows[i]? =some cs/\cs[j]? =some (.gp esz elems)
def xY(ρ:bH)(w:World)(l:vU)(esz:Nat)(elems:List (List Dt)):Prop:=
 ∃cur,lq True w l.b cur/\l.au+l.cap*esz<=cur.size/\(∀cs,cs∈elems->cs.length=esz)/\
  ∀(i:Nat)cs(j:Nat)d,elems[i]? =some cs->cs[j]? =some d->∃u,cur[l.au+i*esz+j]? =some u/\cZ ρ.S w d u
def Live(ρ:bH)(m:Mem):kW->Prop
 | .ap id=>∃bk,m[id]? =some bk/\bk≠.aZ/\((∃esz elems,bk= .row esz elems)->0<(ρ.aO (.ap id)).cap)
 | .sub id i j=>(∃esz elems,fp m id i j esz elems)/\0<(ρ.aO (.sub id i j)).cap
structure aC(ρ:bH)(m:Mem)(w:World):Prop where
 n:ρ.n=m.length
 S:∀b,ρ.S b->b<w.heap.size
 a8:∀k,Live ρ m k->(ρ.aO k).b<w.heap.size/\¬ρ.S (ρ.aO k).b
 inj:∀k k',Live ρ m k->Live ρ m k'->(ρ.aO k).b=(ρ.aO k').b->k=k'
 bk:∀(id:Nat)b,m[id]? =some b->dZ ρ w id b
 gp:∀id i j esz elems,fp m id i j esz elems->0<(ρ.aO (.sub id i j)).cap->xY ρ w (ρ.aO (.sub id i j)) esz elems
theorem Live.fX{ρ:bH}{m:Mem}{k:kW}(h:Live ρ m k):k.id<m.length:=by
 cases k with
 |ap id=>obtain⟨bk,h,_⟩:=h;exact(Hy.1 h).1
 |sub id i j=>obtain⟨⟨_,_,_,_,_,h,_⟩,_⟩:=h;exact(Hy.1 h).1
structure Ext(ρ:bH)(m:Mem)(w:World)(ρ':bH)(m':Mem)(w':World):Prop where
 n:ρ.n<=ρ'.n
 aO:∀id,id<ρ.n->ρ'.aO (.ap id)=ρ.aO (.ap id)
 S:∀b,ρ.S b->ρ'.S b
 S':∀b,ρ'.S b->ρ.S b\/w.heap.size<=b\/∃k,Live ρ m k/\(ρ.aO k).b=b
 a8:∀k,Live ρ' m' k->w.heap.size<=(ρ'.aO k).b\/∃k0,Live ρ m k0/\(ρ.aO k0).b=(ρ'.aO k).b
 frame:∀b,b<w.heap.size->(∀k,Live ρ m k->(ρ.aO k).b≠b)->w'.heap[b]? =w.heap[b]?
 size:w.heap.size<=w'.heap.size
 os:w'.os=w.os
 tape:w'.tape=w.tape
 output:w'.output=w.output
theorem Ext.refl(ρ:bH)(m:Mem)(w:World):Ext ρ m w ρ m w:=
 ⟨QN _,fun _ _=>rfl,fun _ h=>h,fun _ h=>.inl h,fun k h=>.inr ⟨k,h,rfl⟩,fun _ _ _=>rfl,QN _,rfl,rfl,rfl⟩
theorem Ext.trans{ρ ρ1 ρ2:bH}{m m1 m2:Mem}{w w1 w2:World}(a:Ext ρ m w ρ1 m1 w1)(b:Ext ρ1 m1 w1 ρ2 m2 w2):Ext ρ m w ρ2 m2 w2 where
 n:=aaC a.n b.n
 aO id h:=(b.aO id (aaf h a.n)).trans (a.aO id h)
 S x h:=b.S x (a.S x h)
 S' x h:=by
  rcases b.S' x h with h|h|⟨k,hk,he⟩
  .exact a.S' x h
  .exact .inr (.inl (aaC a.size h))
  .rcases a.a8 k hk with h|⟨k0,h0,e0⟩
   .exact .inr (.inl (he▸h))
   .exact .inr (.inr ⟨k0,h0,e0.trans he⟩)
 a8 k h:=by
  rcases b.a8 k h with h|⟨k1,h1,e1⟩
  .exact .inl (aaC a.size h)
  .rcases a.a8 k1 h1 with h|⟨k0,h0,e0⟩
   .exact .inl (e1▸h)
   .exact .inr ⟨k0,h0,e0.trans e1⟩
 frame x hx hk:=by
  refine(b.frame x (aaf hx a.size) fun k1 h1 e1=>?_).trans (a.frame x hx hk)
  rcases a.a8 k1 h1 with h|⟨k0,h0,e0⟩
  .omega
  .exact hk k0 h0 (e0.trans e1)
 size:=aaC a.size b.size
 os:=b.os.trans a.os
 tape:=b.tape.trans a.tape
 output:=b.output.trans a.output
theorem br.ext{ρ ρ':bH}{m m':Mem}{w w':World}(hM:aC ρ m w)(x:Ext ρ m w ρ' m' w'){c:CC}{v:Value}(h:br ρ w .none c v):br ρ' w' .none c v:=by
 have hh:∀b,ρ.S b->w'.heap[b]? =w.heap[b]? :=fun b hb=>x.frame b (hM.S b hb) fun k hk e=>(hM.a8 k hk).2 (e▸hb)
 let ρ1:bH:={n:=ρ'.n,aO:=fun k=>match k with| .ap id=>ρ'.aO (.ap id)|k=>if k.id<ρ.n then ρ.aO k else ρ'.aO k,S:=ρ'.S}
 have g:ij ρ w ρ1 w':=⟨x.n,fun k hk=>by
  cases k with
  |ap id=>exact x.aO id hk
  |sub id i j=>simp only[ρ1];rw[if_pos hk],x.S,hh⟩
 have h1:=br.cF g aK h;cases c<;>simp only[br]at h1⊢
 case gp=>obtain⟨_,_,_,e,_⟩:=h1;cases e
 all_goals exact h1
theorem dy.ext{ρ ρ':bH}{m m':Mem}{w w':World}(hM:aC ρ m w)(x:Ext ρ m w ρ' m' w'){r:RV}{v:Value}(h:dy ρ w r v):dy ρ' w' r v:=by
 cases r with
 |one c=>exact br.ext hM x h
 |agg cs=>
  obtain⟨vs,hv,hl,hc⟩:=h;exact⟨vs,hv,hl,fun i c hi=>let⟨u,hu,hd⟩:=hc i c hi;⟨u,hu,br.ext hM x hd⟩⟩
theorem bW.ext{ρ ρ':bH}{m m':Mem}{w w':World}(hM:aC ρ m w)(x:Ext ρ m w ρ' m' w'){c:CV}{v:Value}(h:bW ρ w c v):bW ρ' w' c v:=by
 cases c with
 |aq=>trivial
 |undef=>exact h
 |rv r=>exact dy.ext hM x h
 |bG rs=>
  obtain⟨vs,hv,hl,hc⟩:=h;exact⟨vs,hv,hl,fun i c hi=>let⟨u,hu,hd⟩:=hc i c hi;⟨u,hu,dy.ext hM x hd⟩⟩
end Go.AM
