/- Part 1 of 39: what the law stands on. -/
import Derived.Calls
import Derived.Laws.AppendOwn
import Derived.Laws.Cells
import Derived.Laws.Tables
import Derived.Laws.Entries
import Derived.Below
import Derived.Deep.Quiet
set_option linter.unusedVariables false
set_option linter.unusedSimpArgs false
set_option linter.unnecessarySimpa false
set_option maxRecDepth 100000
set_option maxHeartbeats 64000000
namespace Go.AM
abbrev sA:=@List.getElem?_eq_getElem
abbrev Gf:=@List.getElem?_eq_some_iff
abbrev Jm:=@Option.bind_eq_some_iff
abbrev KB:=@List.length_map
abbrev NO:=@List.getElem?_map
abbrev NQ:=@List.mem_of_getElem?
abbrev N7:=@Option.bind_eq_bind
abbrev Pq:=@Nat.le_refl
abbrev Pr:=@List.getElem?_set_self
abbrev SD:=@Bool.and_eq_true
abbrev SF:=@List.getElem?_append_right
abbrev Tz:=@List.getElem?_append_left
abbrev Un:=@List.getElem?_of_mem
abbrev V5:=@Nat.le_of_ble_eq_true
abbrev Wf:=@List.getElem?_set_ne
abbrev Wg:=@List.eq_nil_of_length_eq_zero
abbrev Wh:=@Nat.eq_of_beq_eq_true
abbrev Wi:=@Nat.zero_le
abbrev Wj:=@Nat.lt_or_ge
abbrev Wk:=@Int.toNat_natCast
abbrev Wl:=@List.getElem_mem
abbrev Wm:=@Option.some.injEq
abbrev Wn:=@Option.map_some
abbrev Wo:=@List.length_cons
abbrev Yh:=@Classical.byContradiction
abbrev Yx:=@Option.map_eq_some_iff
abbrev Yy:=@List.length_set
abbrev Z3:=@List.length_take
abbrev Z4:=@Array.getElem?_eq_some_iff
abbrev Z5:=@List.mem_map
abbrev aac:=@List.mem_or_eq_of_mem_set
abbrev aad:=@Nat.lt_of_lt_of_le
abbrev aae:=@List.getElem?_eq_none
abbrev aaf:=@List.mem_cons
abbrev aag:=@Nat.mul_le_mul_right
abbrev aah:=@Nat.not_lt_zero
abbrev aai:=@Nat.zero_add
abbrev aaj:=@List.getElem?_take
abbrev aak:=@Nat.ble_eq
abbrev aal:=@List.take_length
abbrev aam:=@List.findIdx?_eq_some_iff_getElem
abbrev aan:=@List.getElem?_set
abbrev aao:=@Nat.add_assoc
abbrev aap:=@Nat.eq_zero_or_pos
abbrev aaq:=@List.length_nil
abbrev aar:=@List.map_cons
abbrev aas:=@Nat.add_mul
abbrev aat:=@List.getElem?_drop
abbrev aau:=@List.all_eq_true
abbrev aav:=@List.map_append
abbrev aaw:=@List.mem_of_mem_take
abbrev aax:=@Option.getD_some
abbrev aay:=@List.map_set
abbrev aaB:=@List.any_eq_true
abbrev aaC:=@List.length_drop
abbrev aaG:=@Array.getElem?_modify
abbrev aaH:=@List.length_append
abbrev aaK:=@Array.getD_eq_getD_getElem?
abbrev aaL:=@List.ext_getElem?
abbrev aaM:=@List.take_add_one
abbrev aaN:=@List.mem_append
abbrev aaO:=@Array.getElem?_eq_getElem
abbrev aaP:=@Nat.le_trans
abbrev aaQ:=@Nat.blt_eq
abbrev aaR:=@List.take_of_length_le
abbrev aaS:=@List.map_map
abbrev aaT:=@Bool.not_eq_true'
abbrev aaU:=@List.getElem?_cons_succ
abbrev aaV:=@Bool.false_eq_true
abbrev aaX:=@Bool.or_eq_true
abbrev aaY:=@Nat.one_mul
abbrev aaZ:=@Array.length_toList
abbrev aa0:=@Array.ext'
abbrev aa1:=@List.pairwise_iff_getElem
abbrev aa3:=@Nat.lt_succ_self
abbrev aa4:=@List.length_mapIdx
abbrev aa6:=@Array.getElem?_setIfInBounds
abbrev aa7:=@List.getElem?_mapIdx
abbrev aa8:=@Array.getElem?_toList
abbrev aa9:=@Nat.sub_zero
abbrev aba:=@List.eq_of_mem_replicate
abbrev abb:=@List.mem_of_mem_drop
abbrev abc:=@Array.getElem?_setIfInBounds_self_of_lt
abbrev abd:=@List.map_take
abbrev abe:=@List.map_congr_left
abbrev abf:=@List.not_mem_nil
abbrev abg:=@List.mem_singleton
abbrev abh:=@List.nodup_cons
abbrev abi:=@List.append_nil
abbrev abj:=@List.length_filter_le
abbrev abk:=@Array.getElem?_append_left
abbrev abl:=@List.findIdx?_eq_none_iff
abbrev abm:=@Bool.not_eq_true
abbrev abn:=@List.set_set
abbrev abo:=@Array.getElem?_setIfInBounds_ne
abbrev abp:=@List.getElem?_cons_zero
abbrev abq:=@List.pairwise_cons
abbrev abr:=@Nat.ne_of_beq_eq_false
abbrev abt:=@List.drop_zero
abbrev abu:=@Option.getD_none
abbrev abv:=@Bool.and_eq_true_iff
abbrev abw:=@List.mem_cons_of_mem
abbrev abx:=@List.getElem_of_mem
abbrev aby:=@List.drop_eq_getElem_cons
abbrev abz:=@List.getElem?_eq_none_iff
abbrev abA:=@List.exists_mem_of_ne_nil
abbrev abB:=@Nat.sub_self
abbrev abC:=@Nat.add_zero
abbrev abD:=@Nat.mul_comm
abbrev abE:=@List.map_nil
abbrev abF:=@List.getElem?_replicate
abbrev abG:=@Nat.le_mul_of_pos_right
abbrev abH:=@List.append_assoc
abbrev abI:=@Nat.lt_trichotomy
abbrev abJ:=@Function.comp_def
abbrev abK:=@Int.le_refl
abbrev abL:=@List.drop_eq_nil_of_le
abbrev abM:=@Bool.false_or
abbrev abN:=@List.map_drop
abbrev abO:=@List.range'_succ
abbrev abP:=@Nat.lt_of_not_le
abbrev abQ:=@List.take_append_drop
abbrev abR:=@List.set_append_right
abbrev abS:=@Bool.and_eq_false_iff
abbrev abT:=@Array.mem_toList_iff
abbrev abU:=@Nat.min_eq_left
abbrev abV:=@Nat.beq_refl
abbrev abW:=@List.filter_eq_self
abbrev abX:=@List.length_pos_iff
abbrev abY:=@Array.getElem?_map
abbrev abZ:=@List.find?_eq_none
abbrev ab0:=@List.filter_append
abbrev ab1:=@Bool.not_true
abbrev ab4:=@Nat.mod_eq_of_lt
abbrev ab5:=@List.cons_append
abbrev ab6:=@List.filter_cons
abbrev ab9:=@Nat.mul_add_mod
abbrev aca:=@List.nil_append
abbrev acb:=@List.mem_filter
abbrev acd:=@Bool.eq_iff_iff
abbrev ace:=@Option.some.inj
abbrev acf:=@Nat.sub_mul
abbrev acg:=@Nat.min_def
theorem om{p:Prop}(h:p:=by omega):p:=h
theorem aI{p:Prop}(h:p:=by simp):p:=h
end Go.AM
namespace Go.AM
inductive Dt where
 |val (v:Value)
 |sl (esz:Nat) (elems:List (List Dt))
inductive CC where
 |ar
 |aa (d:Dt)
 |ptr (id j:Nat)
 |lC (id esz i j:Nat)
 |oR (cs:List Dt)
 |row (id esz lo:Nat) (hi:Option Nat)
 |aB
 |map (id:Nat)
 |fn (f:Nat) (dJ:List Nat)
 |gh (esz:Nat) (elems:List (List Dt))
inductive RV where
 |one (c:CC)
 |agg (cs:List CC)
inductive CV where
 |ar
 |undef
 |rv (r:RV)
 |bF (rs:List RV)
structure ME where
 key:Value
 val:RV
inductive Bk where
 |aO
 |var (cs:List CC)
 |row (esz:Nat) (elems:List (List CC))
 |mp (es:List ME)
 |it (cur left:List (Value×Value))
abbrev Mem:=List Bk
structure St where
 aV:List CV
 mem:Mem
structure uW where
 b:Nat
 au:Nat
 len:Nat
 cap:Nat
inductive kH where
 |ap (id:Nat)
 |sub (id i j:Nat)
def kH.id:kH->Nat
 | .ap id=>id
 | .sub id _ _=>id
structure bG where
 n:Nat
 aP:kH->uW
 S:Nat->Prop
def cG:Value->Bool
 | .bool _| .int _ _| .string _| .pointer none| .nilFunc| .map none| .nilIface=>true
 |_=>false
theorem cG.one{v:Value}(h:cG v=true):v.oneCell'=true:=by
 cases v<;>simp_all[cG,Value.oneCell']
inductive cZ(S:Nat->Prop)(w:World):Dt->Value->Prop
 |val (v:Value) (h:cG v=true):cZ S w (.val v) v
 |no (a:Option Addr):cZ S w (.val (.slice none 0 0)) (.slice a 0 0)
 |nil (esz:Nat) (a:Option Addr) (cap:Nat) (hc:cap<=maxLen):cZ S w (.sl esz []) (.slice a 0 cap)
 |sl (esz:Nat) (elems:List (List Dt)) (b off cap:Nat) (u:Nat->Nat->Value) (hS:S b) (hl:elems.length<=cap) (bl:cap<=maxLen)
   (dn:∀cs,cs∈elems->cs.length=esz)
   (hc:∀i cs j d,elems[i]? =some cs->cs[j]? =some d->w.cell? ⟨b,off+i*esz+j,none⟩=some (u i j))
   (hd:∀i cs j d,elems[i]? =some cs->cs[j]? =some d->cZ S w d (u i j)):
   cZ S w (.sl esz elems) (.slice (some ⟨b,off,none⟩) elems.length cap)
theorem cZ.one{S:Nat->Prop}{w:World}{d:Dt}{v:Value}(h:cZ S w d v):v.oneCell'=true:=by
 cases h with
 |val v h=>exact cG.one h
 |no=>rfl
 |nil=>rfl
 |sl=>rfl
theorem cZ.mono{S S':Nat->Prop}{w w':World}(hS:∀b,S b->S' b)(hw:∀b,S b->w'.heap[b]? =w.heap[b]?){d:Dt}{v:Value}(h:cZ S w d v):cZ S' w' d v:=by
 induction h with
 |val v h=>exact .val v h
 |no a=>exact .no a
 |nil esz a cap hc=>exact .nil esz a cap hc
 |sl esz elems b off cap u hb hl bl dn hc hd ih=>
  exact .sl esz elems b off cap u (hS b hb) hl bl dn
   (fun i cs j d hi hj=>by rw[World.cell?_of_block (a:=⟨b,off+i*esz+j,none⟩) (hw b hb)];exact hc i cs j d hi hj) ih
def bq(ρ:bG)(w:World)(pos:Option (Nat×Nat×Nat)):CC->Value->Prop
 | .ar,v=>v.oneCell'=true
 | .aa d,v=>cZ ρ.S w d v
 | .ptr id j,v=>id<ρ.n/\v= .pointer (some ⟨(ρ.aP (.ap id)).b,(ρ.aP (.ap id)).au+j,none⟩)
 | .lC id esz i j,v=>id<ρ.n/\v= .pointer (some ⟨(ρ.aP (.ap id)).b,(ρ.aP (.ap id)).au+i*esz+j,none⟩)
 | .oR cs,v=>∃b off,v= .pointer (some ⟨b,off,none⟩)/\ρ.S b/\∀j d,cs[j]? =some d->∃u,w.cell? ⟨b,off+j,none⟩=some u/\cZ ρ.S w d u
 | .row id esz lo hi,v=>id<ρ.n/\lo<=hi.getD (ρ.aP (.ap id)).len/\hi.getD (ρ.aP (.ap id)).len<=(ρ.aP (.ap id)).len/\(ρ.aP (.ap id)).len<=(ρ.aP (.ap id)).cap/\(ρ.aP (.ap id)).cap<=maxLen/\
   ∃a,v= .slice a (hi.getD (ρ.aP (.ap id)).len-lo) ((ρ.aP (.ap id)).cap-lo)/\(lo<(ρ.aP (.ap id)).cap->a=some ⟨(ρ.aP (.ap id)).b,(ρ.aP (.ap id)).au+lo*esz,none⟩)
 | .aB,v=>∃a,v= .slice a 0 0
 | .map id,v=>id<ρ.n/\v= .map (some (ρ.aP (.ap id)).b)
 | .fn f dJ,v=>(∀id,id∈dJ->id<ρ.n)/\
   v= .func (.func f) #[] (dJ.map fun id=>Value.pointer (some ⟨(ρ.aP (.ap id)).b,(ρ.aP (.ap id)).au,none⟩)).toArray
 | .gh esz elems,v=>∃id i j,pos=some (id,i,j)/\elems.length<=(ρ.aP (.sub id i j)).cap/\(ρ.aP (.sub id i j)).cap<=maxLen/\
   ∃a,v= .slice a elems.length (ρ.aP (.sub id i j)).cap/\
    (0<(ρ.aP (.sub id i j)).cap->a=some ⟨(ρ.aP (.sub id i j)).b,(ρ.aP (.sub id i j)).au,none⟩)
theorem bq.one{ρ:bG}{w:World}{pos:Option (Nat×Nat×Nat)}{c:CC}{v:Value}(h:bq ρ w pos c v):v.oneCell'=true:=by
 cases c<;>simp only[bq]at h
 case ar=>exact h
 case aa=>exact h.one
 case ptr=>rw[h.2];rfl
 case lC=>rw[h.2];rfl
 case oR=>obtain⟨_,_,rfl,_⟩:=h;rfl
 case row=>obtain⟨_,_,_,_,_,_,rfl,_⟩:=h;rfl
 case aB=>obtain⟨_,rfl⟩:=h;rfl
 case map=>rw[h.2];rfl
 case fn=>rw[h.2];rfl
 case gh=>obtain⟨_,_,_,_,_,_,_,rfl,_⟩:=h;rfl
structure hB(ρ:bG)(w:World)(ρ':bG)(w':World):Prop where
 n:ρ.n<=ρ'.n
 aP:∀k:kH,k.id<ρ.n->ρ'.aP k=ρ.aP k
 S:∀b,ρ.S b->ρ'.S b
 heap:∀b,ρ.S b->w'.heap[b]? =w.heap[b]?
theorem bq.cE{ρ ρ':bG}{w w':World}{pos:Option (Nat×Nat×Nat)}(g:hB ρ w ρ' w')(hp:∀id i j,pos=some (id,i,j)->id<ρ.n){c:CC}{v:Value}(h:bq ρ w pos c v):bq ρ' w' pos c v:=by
 cases c<;>simp only[bq]at h⊢
 case ar=>exact h
 case aa=>exact h.mono g.S g.heap
 case ptr id j=>rw[g.aP (.ap id) h.1];exact⟨aad h.1 g.n,h.2⟩
 case lC id _ _ _=>rw[g.aP (.ap id) h.1];exact⟨aad h.1 g.n,h.2⟩
 case oR cs=>
  obtain⟨b,off,hv,hb,hc⟩:=h;refine⟨b,off,hv,g.S b hb,fun j d hj=>?_⟩
  obtain⟨u,hu,hd⟩:=hc j d hj;exact⟨u,by rw[World.cell?_of_block (a:=⟨b,off+j,none⟩) (g.heap b hb)];exact hu,hd.mono g.S g.heap⟩
 case row id _ _ _=>rw[g.aP (.ap id) h.1];exact⟨aad h.1 g.n,h.2⟩
 case aB=>exact h
 case map id=>rw[g.aP (.ap id) h.1];exact⟨aad h.1 g.n,h.2⟩
 case fn f dJ=>
  refine⟨fun id hid=>aad (h.1 id hid) g.n,?_⟩
  rw[h.2];congr 2;refine abe fun id hid=>?_
  rw[g.aP (.ap id) (h.1 id hid)]
 case gh esz elems=>
  obtain⟨id,i,j,dd,oS⟩:=h;refine⟨id,i,j,dd,?_⟩;rw[g.aP (.sub id i j) (hp id i j dd)];exact oS
def du(ρ:bG)(w:World):RV->Value->Prop
 | .one c,v=>bq ρ w .none c v
 | .agg cs,v=>∃vs:List Value,v= .agg vs.toArray/\vs.length=cs.length/\∀(i:Nat)c,cs[i]? =some c->∃u,vs[i]? =some u/\bq ρ w .none c u
theorem du.cE{ρ ρ':bG}{w w':World}(g:hB ρ w ρ' w'){r:RV}{v:Value}(h:du ρ w r v):du ρ' w' r v:=by
 cases r with
 |one c=>exact bq.cE g aI h
 |agg cs=>
  obtain⟨vs,hv,hl,hc⟩:=h;exact⟨vs,hv,hl,fun i c hi=>let⟨u,hu,hd⟩:=hc i c hi;⟨u,hu,bq.cE g aI hd⟩⟩
def bV(ρ:bG)(w:World):CV->Value->Prop
 | .ar,_=>True
 | .undef,v=>v=Go.undef
 | .rv r,v=>du ρ w r v
 | .bF rs,v=>∃vs:List Value,v= .tuple vs.toArray/\vs.length=rs.length/\∀(i:Nat)r,rs[i]? =some r->∃u,vs[i]? =some u/\du ρ w r u
theorem bV.cE{ρ ρ':bG}{w w':World}(g:hB ρ w ρ' w'){c:CV}{v:Value}(h:bV ρ w c v):bV ρ' w' c v:=by
 cases c with
 |ar=>trivial
 |undef=>exact h
 |rv r=>exact du.cE g h
 |bF rs=>
  obtain⟨vs,hv,hl,hc⟩:=h;exact⟨vs,hv,hl,fun i c hi=>let⟨u,hu,hd⟩:=hc i c hi;⟨u,hu,du.cE g hd⟩⟩
def kQ(mk:Prop)(w:World)(b:Nat)(cur:Array Value):Prop:=
 ∃ty fr,w.heap[b]? =some (.cells cur ty fr)/\fr.1<=fr.2/\(∀i,i<cur.size->(decide (fr.1<=i)&&decide (i<fr.2))=false)/\(mk\/fr.2<=cur.size)
theorem kQ.lt{mk:Prop}{w:World}{b:Nat}{cur:Array Value}(h:kQ mk w b cur):b<w.heap.size:=by obtain⟨ty,fr,h,_⟩:=h;exact(Z4.1 h).1
theorem kQ.cell{mk:Prop}{w:World}{b:Nat}{cur:Array Value}(h:kQ mk w b cur)(i:Nat):w.cell? ⟨b,i,none⟩=cur[i]? :=by obtain⟨ty,fr,h,_⟩:=h;exact cell_of_row w b i cur ty fr h
theorem kQ.nZ{mk:Prop}{w:World}{b:Nat}{cur:Array Value}(h:kQ mk w b cur){i:Nat}(hi:i<cur.size):w.frozen? ⟨b,i,none⟩=false:=by obtain⟨ty,fr,h,_,hf,_⟩:=h;simpa[World.frozen?,h]using hf i hi
theorem kQ.dv{mk:Prop}{w w':World}{b:Nat}{cur:Array Value}(h:kQ mk w b cur)(hb:w'.heap[b]? =w.heap[b]?):kQ mk w' b cur:=by obtain⟨ty,fr,h,hf⟩:=h;exact⟨ty,fr,hb.trans h,hf⟩
theorem kQ.new{mk:Prop}(w:World)(cur:Array Value)(ty:TypeId):kQ mk (w.alloc (.cells cur ty)) w.heap.size cur:=
 ⟨ty,(0,0),heap_alloc_new w _,Pq _,(by intro i _;simp),.inr (Wi _)⟩
def Bj(ρ:bG)(w:World)(es:List ME)(cH:Array MapEntry):Prop:=
 cH.size=es.length/\∀(i:Nat)e,es[i]? =some e->∃e',cH[i]? =some e'/\e'.key=e.key/\du ρ w e.val e'.val
def l4(cH:Array MapEntry)(clock:Nat):Prop:=(∀e,e∈cH.toList->e.born<clock)/\(cH.toList.map (·.born)).Nodup
def Qw(seen:Array Nat)(cH:Array MapEntry)(cur left:List (Value×Value)):Prop:=
 ((cH.filter fun e=>!seen.contains e.born).toList.map fun e=>(e.key,e.val))=left/\(∀p,p∈cur->∃(e:MapEntry)(Hx:Array Nat),e∈cH.toList/\seen=Hx.push e.born/\(e.key,e.val)=p)/\∀p,p∈left\/p∈cur->cG p.1=true/\cG p.2=true
def dV(ρ:bG)(w:World)(id:Nat):Bk->Prop
 | .aO=>True
 | .var cs=>∃cur,kQ True w (ρ.aP (.ap id)).b cur/\∀(j:Nat)c,cs[j]? =some c->∃u,cur[(ρ.aP (.ap id)).au+j]? =some u/\bq ρ w .none c u
 | .row esz elems=>elems.length=(ρ.aP (.ap id)).len/\(ρ.aP (.ap id)).len<=(ρ.aP (.ap id)).cap/\(ρ.aP (.ap id)).cap<=maxLen/\(∀cs,cs∈elems->cs.length=esz)/\
   (0<(ρ.aP (.ap id)).cap->∃cur,kQ (esz=1) w (ρ.aP (.ap id)).b cur/\(ρ.aP (.ap id)).au+(ρ.aP (.ap id)).cap*esz<=cur.size/\
    ∀(i:Nat)cs(j:Nat)c,elems[i]? =some cs->cs[j]? =some c->∃u,cur[(ρ.aP (.ap id)).au+i*esz+j]? =some u/\bq ρ w (some (id,i,j)) c u)
 | .mp es=>∃cH clock,(w.heap[(ρ.aP (.ap id)).b]? =some (.map cH clock)/\l4 cH clock)/\Bj ρ w es cH
 | .it cur left=>∃mb seen clock cH,w.heap[(ρ.aP (.ap id)).b]? =some (.mapIter (some mb) clock seen clock)/\(ρ.aP (.ap id)).au=0/\ρ.S mb/\w.heap[mb]? =some (.map cH clock)/\l4 cH clock/\Qw seen cH cur left
def fg(m:Mem)(id i j esz:Nat)(elems:List (List Dt)):Prop:=
 ∃es rows cs,m[id]? =some (.row es rows)/\rows[i]? =some cs/\cs[j]? =some (.gh esz elems)
def wX(ρ:bG)(w:World)(l:uW)(esz:Nat)(elems:List (List Dt)):Prop:=
 ∃cur,kQ True w l.b cur/\l.au+l.cap*esz<=cur.size/\(∀cs,cs∈elems->cs.length=esz)/\
  ∀(i:Nat)cs(j:Nat)d,elems[i]? =some cs->cs[j]? =some d->∃u,cur[l.au+i*esz+j]? =some u/\cZ ρ.S w d u
def Live(ρ:bG)(m:Mem):kH->Prop
 | .ap id=>∃bk,m[id]? =some bk/\bk≠.aO/\((∃esz elems,bk= .row esz elems)->0<(ρ.aP (.ap id)).cap)
 | .sub id i j=>(∃esz elems,fg m id i j esz elems)/\0<(ρ.aP (.sub id i j)).cap
structure aA(ρ:bG)(m:Mem)(w:World):Prop where
 n:ρ.n=m.length
 S:∀b,ρ.S b->b<w.heap.size
 a7:∀k,Live ρ m k->(ρ.aP k).b<w.heap.size/\¬ρ.S (ρ.aP k).b
 inj:∀k k',Live ρ m k->Live ρ m k'->(ρ.aP k).b=(ρ.aP k').b->k=k'
 bk:∀(id:Nat)b,m[id]? =some b->dV ρ w id b
 gh:∀id i j esz elems,fg m id i j esz elems->0<(ρ.aP (.sub id i j)).cap->wX ρ w (ρ.aP (.sub id i j)) esz elems
theorem Live.fN{ρ:bG}{m:Mem}{k:kH}(h:Live ρ m k):k.id<m.length:=by
 cases k with
 |ap id=>obtain⟨bk,h,_⟩:=h;exact(Gf.1 h).1
 |sub id i j=>obtain⟨⟨_,_,_,_,_,h,_⟩,_⟩:=h;exact(Gf.1 h).1
structure Ext(ρ:bG)(m:Mem)(w:World)(ρ':bG)(m':Mem)(w':World):Prop where
 n:ρ.n<=ρ'.n
 aP:∀id,id<ρ.n->ρ'.aP (.ap id)=ρ.aP (.ap id)
 S:∀b,ρ.S b->ρ'.S b
 S':∀b,ρ'.S b->ρ.S b\/w.heap.size<=b\/∃k,Live ρ m k/\(ρ.aP k).b=b
 a7:∀k,Live ρ' m' k->w.heap.size<=(ρ'.aP k).b\/∃k0,Live ρ m k0/\(ρ.aP k0).b=(ρ'.aP k).b
 frame:∀b,b<w.heap.size->(∀k,Live ρ m k->(ρ.aP k).b≠b)->w'.heap[b]? =w.heap[b]?
 size:w.heap.size<=w'.heap.size
 os:w'.os=w.os
 tape:w'.tape=w.tape
 output:w'.output=w.output
theorem Ext.refl(ρ:bG)(m:Mem)(w:World):Ext ρ m w ρ m w:=
 ⟨Pq _,fun _ _=>rfl,fun _ h=>h,fun _ h=>.inl h,fun k h=>.inr ⟨k,h,rfl⟩,fun _ _ _=>rfl,Pq _,rfl,rfl,rfl⟩
theorem Ext.trans{ρ ρ1 ρ2:bG}{m m1 m2:Mem}{w w1 w2:World}(a:Ext ρ m w ρ1 m1 w1)(b:Ext ρ1 m1 w1 ρ2 m2 w2):Ext ρ m w ρ2 m2 w2 where
 n:=aaP a.n b.n
 aP id h:=(b.aP id (aad h a.n)).trans (a.aP id h)
 S x h:=b.S x (a.S x h)
 S' x h:=by
  rcases b.S' x h with h|h|⟨k,hk,he⟩
  .exact a.S' x h
  .exact .inr (.inl (aaP a.size h))
  .rcases a.a7 k hk with h|⟨k0,h0,e0⟩
   .exact .inr (.inl (he▸h))
   .exact .inr (.inr ⟨k0,h0,e0.trans he⟩)
 a7 k h:=by
  rcases b.a7 k h with h|⟨k1,h1,e1⟩
  .exact .inl (aaP a.size h)
  .rcases a.a7 k1 h1 with h|⟨k0,h0,e0⟩
   .exact .inl (e1▸h)
   .exact .inr ⟨k0,h0,e0.trans e1⟩
 frame x hx hk:=by
  refine(b.frame x (aad hx a.size) fun k1 h1 e1=>?_).trans (a.frame x hx hk)
  rcases a.a7 k1 h1 with h|⟨k0,h0,e0⟩
  .omega
  .exact hk k0 h0 (e0.trans e1)
 size:=aaP a.size b.size
 os:=b.os.trans a.os
 tape:=b.tape.trans a.tape
 output:=b.output.trans a.output
theorem bq.ext{ρ ρ':bG}{m m':Mem}{w w':World}(hM:aA ρ m w)(x:Ext ρ m w ρ' m' w'){c:CC}{v:Value}(h:bq ρ w .none c v):bq ρ' w' .none c v:=by
 have hh:∀b,ρ.S b->w'.heap[b]? =w.heap[b]? :=fun b hb=>x.frame b (hM.S b hb) fun k hk e=>(hM.a7 k hk).2 (e▸hb)
 let ρ1:bG:={n:=ρ'.n,aP:=fun k=>match k with| .ap id=>ρ'.aP (.ap id)|k=>if k.id<ρ.n then ρ.aP k else ρ'.aP k,S:=ρ'.S}
 have g:hB ρ w ρ1 w':=⟨x.n,fun k hk=>by
  cases k with
  |ap id=>exact x.aP id hk
  |sub id i j=>simp only[ρ1];rw[if_pos hk],x.S,hh⟩
 have h1:=bq.cE g aI h;cases c<;>simp only[bq]at h1⊢
 case gh=>obtain⟨_,_,_,e,_⟩:=h1;cases e
 all_goals exact h1
theorem du.ext{ρ ρ':bG}{m m':Mem}{w w':World}(hM:aA ρ m w)(x:Ext ρ m w ρ' m' w'){r:RV}{v:Value}(h:du ρ w r v):du ρ' w' r v:=by
 cases r with
 |one c=>exact bq.ext hM x h
 |agg cs=>
  obtain⟨vs,hv,hl,hc⟩:=h;exact⟨vs,hv,hl,fun i c hi=>let⟨u,hu,hd⟩:=hc i c hi;⟨u,hu,bq.ext hM x hd⟩⟩
theorem bV.ext{ρ ρ':bG}{m m':Mem}{w w':World}(hM:aA ρ m w)(x:Ext ρ m w ρ' m' w'){c:CV}{v:Value}(h:bV ρ w c v):bV ρ' w' c v:=by
 cases c with
 |ar=>trivial
 |undef=>exact h
 |rv r=>exact du.ext hM x h
 |bF rs=>
  obtain⟨vs,hv,hl,hc⟩:=h;exact⟨vs,hv,hl,fun i c hi=>let⟨u,hu,hd⟩:=hc i c hi;⟨u,hu,du.ext hM x hd⟩⟩
end Go.AM
