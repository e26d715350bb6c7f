/- Part 1 of 43: what the law stands on. -/
import Derived.Calls
import Derived.Laws.AppendOwn
import Derived.Laws.Cells
import Derived.Laws.Tables
import Derived.Laws.Entries
import Derived.Below
import Derived.Deep.Quiet
set_option linter.unusedVariables false
set_option linter.unusedSimpArgs false
set_option linter.unnecessarySimpa false
set_option maxRecDepth 100000
set_option maxHeartbeats 64000000
namespace Go.AM
abbrev aab:=@List.getElem?_eq_getElem
abbrev aac:=@List.getElem?_eq_some_iff
abbrev aad:=@List.length_map
abbrev aae:=@Option.bind_eq_some_iff
abbrev aaf:=@List.getElem?_map
abbrev aag:=@List.mem_of_getElem?
abbrev aah:=@Option.bind_eq_bind
abbrev aaj:=@Nat.le_refl
abbrev aak:=@Nat.le_of_ble_eq_true
abbrev aal:=@List.getElem?_set_self
abbrev aam:=@List.getElem?_of_mem
abbrev aan:=@List.getElem?_append_right
abbrev aao:=@Nat.zero_le
abbrev aap:=@Bool.and_eq_true
abbrev aaq:=@Nat.lt_or_ge
abbrev aar:=@List.getElem?_append_left
abbrev aas:=@List.getElem?_set_ne
abbrev aat:=@List.eq_nil_of_length_eq_zero
abbrev aau:=@List.getElem_mem
abbrev aav:=@Nat.eq_of_beq_eq_true
abbrev aaw:=@Int.toNat_natCast
abbrev aax:=@List.length_cons
abbrev aay:=@List.mem_map
abbrev aaz:=@List.length_take
abbrev aaA:=@Option.some.injEq
abbrev aaB:=@Classical.byContradiction
abbrev aaC:=@Option.map_some
abbrev aaD:=@Option.map_eq_some_iff
abbrev aaE:=@List.length_set
abbrev aaF:=@Array.getElem?_eq_some_iff
abbrev aaG:=@List.getElem?_eq_none
abbrev aaH:=@Nat.lt_of_lt_of_le
abbrev aaI:=@List.mem_or_eq_of_mem_set
abbrev aaJ:=@List.mem_cons
abbrev aaK:=@List.getElem?_take
abbrev aaL:=@Nat.not_lt_zero
abbrev aaM:=@List.any_eq_true
abbrev aaN:=@List.findIdx?_eq_some_iff_getElem
abbrev aaO:=@List.take_length
abbrev aaP:=@Nat.mul_le_mul_right
abbrev aaQ:=@List.getElem?_set
abbrev aaR:=@Nat.ble_eq
abbrev aaS:=@Nat.zero_add
abbrev aaT:=@List.length_nil
abbrev aaU:=@List.map_append
abbrev aaV:=@Nat.add_assoc
abbrev aaW:=@List.all_eq_true
abbrev aaX:=@List.map_cons
abbrev aaY:=@Nat.eq_zero_or_pos
abbrev aaZ:=@List.getElem?_drop
abbrev aa0:=@Nat.le_trans
abbrev aa1:=@List.mem_of_mem_take
abbrev aa2:=@Nat.add_mul
abbrev aa3:=@List.length_append
abbrev aa4:=@List.length_drop
abbrev aa5:=@Option.getD_some
abbrev aa6:=@List.map_set
abbrev aa7:=@List.ext_getElem?
abbrev aa8:=@List.take_add_one
abbrev aa9:=@List.getElem?_cons_succ
abbrev aba:=@Array.getElem?_modify
abbrev abb:=@Array.getD_eq_getD_getElem?
abbrev abc:=@Array.getElem?_eq_getElem
abbrev abd:=@List.map_map
abbrev abe:=@Nat.blt_eq
abbrev abf:=@List.mem_append
abbrev abg:=@Bool.not_eq_true'
abbrev abh:=@Bool.false_eq_true
abbrev abi:=@List.pairwise_iff_getElem
abbrev abj:=@List.getElem?_take_of_lt
abbrev abk:=@Bool.or_eq_true
abbrev abl:=@Nat.one_mul
abbrev abm:=@List.take_of_length_le
abbrev abn:=@Array.ext'
abbrev abo:=@Option.some.inj
abbrev abp:=@Nat.lt_succ_self
abbrev abq:=@List.length_mapIdx
abbrev abr:=@Array.getElem?_setIfInBounds
abbrev abt:=@List.mem_of_mem_drop
abbrev abu:=@List.getElem?_mapIdx
abbrev abv:=@Array.length_toList
abbrev abx:=@Array.getElem?_toList
abbrev aby:=@List.eq_of_mem_replicate
abbrev abz:=@Array.getElem?_setIfInBounds_self_of_lt
abbrev abA:=@List.map_congr_left
abbrev abB:=@List.not_mem_nil
abbrev abC:=@Nat.sub_zero
abbrev abF:=@List.mem_singleton
abbrev abG:=@List.pairwise_cons
abbrev abH:=@List.nodup_cons
abbrev abI:=@List.append_nil
abbrev abJ:=@List.length_filter_le
abbrev abK:=@Array.getElem?_append_left
abbrev abL:=@Bool.false_or
abbrev abM:=@List.findIdx?_eq_none_iff
abbrev abN:=@List.cons_append
abbrev abO:=@List.set_set
abbrev abP:=@List.getElem?_range
abbrev abQ:=@Array.getElem?_setIfInBounds_ne
abbrev abR:=@List.getElem?_cons_zero
abbrev abS:=@List.map_take
abbrev abT:=@Nat.ne_of_beq_eq_false
abbrev abU:=@Function.comp_def
abbrev abV:=@List.take_append_drop
abbrev abW:=@Bool.and_eq_false_iff
abbrev abX:=@Array.mem_of_getElem?
abbrev abY:=@Option.getD_none
abbrev abZ:=@Bool.and_eq_true_iff
abbrev ab0:=@Bool.or_eq_false_iff
abbrev ab1:=@Bool.not_eq_true
abbrev ab2:=@List.mem_cons_of_mem
abbrev ab3:=@Int.le_refl
abbrev ab4:=@List.getElem_of_mem
abbrev ab5:=@List.drop_eq_getElem_cons
abbrev ab6:=@Bool.eq_iff_iff
abbrev ab7:=@List.getElem?_eq_none_iff
abbrev ab8:=@List.exists_mem_of_ne_nil
abbrev ab9:=@Nat.sub_self
abbrev aca:=@Nat.add_zero
abbrev acb:=@Nat.mul_comm
abbrev acd:=@List.find?_eq_none
abbrev ace:=@List.getElem?_replicate
abbrev acf:=@Nat.le_mul_of_pos_right
abbrev acg:=@List.append_assoc
abbrev ach:=@Nat.lt_trichotomy
abbrev aci:=@List.all_eq_false
abbrev acj:=@List.drop_eq_nil_of_le
abbrev ack:=@Bool.true_and
abbrev acm:=@List.range'_succ
abbrev acn:=@Nat.lt_of_not_le
abbrev aco:=@List.set_append_right
abbrev acp:=@Array.mem_toList_iff
abbrev acq:=@Nat.min_eq_left
abbrev acr:=@List.map_nil
abbrev acs:=@Nat.beq_refl
abbrev acu:=@Nat.le_of_lt
abbrev acz:=@List.filter_eq_self
abbrev acA:=@List.mem_map_of_mem
abbrev acB:=@List.length_pos_iff
abbrev acC:=@List.drop_zero
abbrev acD:=@Array.getElem?_map
abbrev acE:=@List.filter_append
abbrev acF:=@Bool.not_true
abbrev acG:=@Prod.mk.injEq
abbrev acJ:=@List.map_drop
abbrev acK:=@List.any_cons
abbrev acO:=@Nat.mod_eq_of_lt
abbrev acP:=@List.filter_cons
abbrev acS:=@Nat.mul_add_mod
abbrev acT:=@List.nil_append
abbrev acU:=@List.mem_filter
abbrev acV:=@Nat.sub_mul
abbrev acW:=@Nat.min_def
theorem om{p:Prop}(h:p:=by omega):p:=h
theorem aG{p:Prop}(h:p:=by simp):p:=h
end Go.AM
namespace Go.AM
inductive Dt where
 |val (v:Value)
 |sl (esz:Nat) (elems:List (List Dt))
inductive CC where
 |ap
 |aa (d:Dt)
 |ptr (id j:Nat)
 |mQ (id esz i j:Nat)
 |qx (cs:List Dt)
 |row (id esz lo:Nat) (hi:Option Nat)
 |aI
 |map (id:Nat)
 |fn (f:Nat) (ew:List Nat)
 |gX (esz:Nat) (elems:List (List Dt))
inductive RV where
 |one (c:CC)
 |agg (cs:List CC)
inductive CV where
 |ap
 |undef
 |rv (r:RV)
 |bF (rs:List RV)
structure ME where
 key:Value
 val:RV
inductive Bk where
 |bh
 |var (cs:List CC)
 |row (esz:Nat) (elems:List (List CC))
 |mp (es:List ME)
 |it (cur left:List (Value×Value))
abbrev Mem:=List Bk
structure St where
 aY:List CV
 mem:Mem
structure xA where
 b:Nat
 ax:Nat
 len:Nat
 cap:Nat
inductive lT where
 |au (id:Nat)
 |sub (id i j:Nat)
def lT.id:lT->Nat
 | .au id=>id
 | .sub id _ _=>id
structure bL where
 n:Nat
 aR:lT->xA
 S:Nat->Prop
def cT:Value->Bool
 | .bool _| .int _ _| .string _| .pointer none| .nilFunc| .map none| .nilIface=>true
 |_=>false
theorem cT.one{v:Value}(h:cT v=true):v.oneCell'=true:=by
 cases v<;>simp_all[cT,Value.oneCell']
inductive dz(S:Nat->Prop)(w:World):Dt->Value->Prop
 |val (v:Value) (h:cT v=true):dz S w (.val v) v
 |no (a:Option Addr):dz S w (.val (.slice none 0 0)) (.slice a 0 0)
 |nil (esz:Nat) (a:Option Addr) (cap:Nat) (hc:cap<=maxLen):dz S w (.sl esz []) (.slice a 0 cap)
 |sl (esz:Nat) (elems:List (List Dt)) (b off cap:Nat) (u:Nat->Nat->Value) (hS:S b) (hl:elems.length<=cap) (bp:cap<=maxLen)
   (dI:∀cs,cs∈elems->cs.length=esz)
   (hc:∀i cs j d,elems[i]? =some cs->cs[j]? =some d->w.cell? ⟨b,off+i*esz+j,none⟩=some (u i j))
   (hd:∀i cs j d,elems[i]? =some cs->cs[j]? =some d->dz S w d (u i j)):
   dz S w (.sl esz elems) (.slice (some ⟨b,off,none⟩) elems.length cap)
theorem dz.one{S:Nat->Prop}{w:World}{d:Dt}{v:Value}(h:dz S w d v):v.oneCell'=true:=by
 cases h with
 |val v h=>exact cT.one h
 |no=>rfl
 |nil=>rfl
 |sl=>rfl
theorem dz.mono{S S':Nat->Prop}{w w':World}(hS:∀b,S b->S' b)(hw:∀b,S b->w'.heap[b]? =w.heap[b]?){d:Dt}{v:Value}(h:dz S w d v):dz S' w' d v:=by
 induction h with
 |val v h=>exact .val v h
 |no a=>exact .no a
 |nil esz a cap hc=>exact .nil esz a cap hc
 |sl esz elems b off cap u hb hl bp dI hc hd ih=>
  exact .sl esz elems b off cap u (hS b hb) hl bp dI
   (fun i cs j d hi hj=>by rw[World.cell?_of_block (a:=⟨b,off+i*esz+j,none⟩) (hw b hb)];exact hc i cs j d hi hj) ih
def bz(ρ:bL)(w:World)(pos:Option (Nat×Nat×Nat)):CC->Value->Prop
 | .ap,v=>v.oneCell'=true
 | .aa d,v=>dz ρ.S w d v
 | .ptr id j,v=>id<ρ.n/\v= .pointer (some ⟨(ρ.aR (.au id)).b,(ρ.aR (.au id)).ax+j,none⟩)
 | .mQ id esz i j,v=>id<ρ.n/\v= .pointer (some ⟨(ρ.aR (.au id)).b,(ρ.aR (.au id)).ax+i*esz+j,none⟩)
 | .qx cs,v=>∃b off,v= .pointer (some ⟨b,off,none⟩)/\ρ.S b/\∀j d,cs[j]? =some d->∃u,w.cell? ⟨b,off+j,none⟩=some u/\dz ρ.S w d u
 | .row id esz lo hi,v=>id<ρ.n/\lo<=hi.getD (ρ.aR (.au id)).len/\hi.getD (ρ.aR (.au id)).len<=(ρ.aR (.au id)).len/\(ρ.aR (.au id)).len<=(ρ.aR (.au id)).cap/\(ρ.aR (.au id)).cap<=maxLen/\
   ∃a,v= .slice a (hi.getD (ρ.aR (.au id)).len-lo) ((ρ.aR (.au id)).cap-lo)/\(lo<(ρ.aR (.au id)).cap->a=some ⟨(ρ.aR (.au id)).b,(ρ.aR (.au id)).ax+lo*esz,none⟩)
 | .aI,v=>∃a,v= .slice a 0 0
 | .map id,v=>id<ρ.n/\v= .map (some (ρ.aR (.au id)).b)
 | .fn f ew,v=>(∀id,id∈ew->id<ρ.n)/\
   v= .func (.func f) #[] (ew.map fun id=>Value.pointer (some ⟨(ρ.aR (.au id)).b,(ρ.aR (.au id)).ax,none⟩)).toArray
 | .gX esz elems,v=>∃id i j,pos=some (id,i,j)/\elems.length<=(ρ.aR (.sub id i j)).cap/\(ρ.aR (.sub id i j)).cap<=maxLen/\
   ∃a,v= .slice a elems.length (ρ.aR (.sub id i j)).cap/\
    (0<(ρ.aR (.sub id i j)).cap->a=some ⟨(ρ.aR (.sub id i j)).b,(ρ.aR (.sub id i j)).ax,none⟩)
theorem bz.one{ρ:bL}{w:World}{pos:Option (Nat×Nat×Nat)}{c:CC}{v:Value}(h:bz ρ w pos c v):v.oneCell'=true:=by
 cases c<;>simp only[bz]at h
 case ap=>exact h
 case aa=>exact h.one
 case ptr=>rw[h.2];rfl
 case mQ=>rw[h.2];rfl
 case qx=>obtain⟨_,_,rfl,_⟩:=h;rfl
 case row=>obtain⟨_,_,_,_,_,_,rfl,_⟩:=h;rfl
 case aI=>obtain⟨_,rfl⟩:=h;rfl
 case map=>rw[h.2];rfl
 case fn=>rw[h.2];rfl
 case gX=>obtain⟨_,_,_,_,_,_,_,rfl,_⟩:=h;rfl
structure iT(ρ:bL)(w:World)(ρ':bL)(w':World):Prop where
 n:ρ.n<=ρ'.n
 aR:∀k:lT,k.id<ρ.n->ρ'.aR k=ρ.aR k
 S:∀b,ρ.S b->ρ'.S b
 heap:∀b,ρ.S b->w'.heap[b]? =w.heap[b]?
theorem bz.cM{ρ ρ':bL}{w w':World}{pos:Option (Nat×Nat×Nat)}(g:iT ρ w ρ' w')(hp:∀id i j,pos=some (id,i,j)->id<ρ.n){c:CC}{v:Value}(h:bz ρ w pos c v):bz ρ' w' pos c v:=by
 cases c<;>simp only[bz]at h⊢
 case ap=>exact h
 case aa=>exact h.mono g.S g.heap
 case ptr id j=>rw[g.aR (.au id) h.1];exact⟨aaH h.1 g.n,h.2⟩
 case mQ id _ _ _=>rw[g.aR (.au id) h.1];exact⟨aaH h.1 g.n,h.2⟩
 case qx cs=>
  obtain⟨b,off,hv,hb,hc⟩:=h;refine⟨b,off,hv,g.S b hb,fun j d hj=>?_⟩
  obtain⟨u,hu,hd⟩:=hc j d hj;exact⟨u,by rw[World.cell?_of_block (a:=⟨b,off+j,none⟩) (g.heap b hb)];exact hu,hd.mono g.S g.heap⟩
 case row id _ _ _=>rw[g.aR (.au id) h.1];exact⟨aaH h.1 g.n,h.2⟩
 case aI=>exact h
 case map id=>rw[g.aR (.au id) h.1];exact⟨aaH h.1 g.n,h.2⟩
 case fn f ew=>
  refine⟨fun id hid=>aaH (h.1 id hid) g.n,?_⟩
  rw[h.2];congr 2;refine abA fun id hid=>?_
  rw[g.aR (.au id) (h.1 id hid)]
 case gX esz elems=>
  obtain⟨id,i,j,dD,qy⟩:=h;refine⟨id,i,j,dD,?_⟩;rw[g.aR (.sub id i j) (hp id i j dD)];exact qy
def dW(ρ:bL)(w:World):RV->Value->Prop
 | .one c,v=>bz ρ w .none c v
 | .agg cs,v=>∃vs:List Value,v= .agg vs.toArray/\vs.length=cs.length/\∀(i:Nat)c,cs[i]? =some c->∃u,vs[i]? =some u/\bz ρ w .none c u
theorem dW.cM{ρ ρ':bL}{w w':World}(g:iT ρ w ρ' w'){r:RV}{v:Value}(h:dW ρ w r v):dW ρ' w' r v:=by
 cases r with
 |one c=>exact bz.cM g aG h
 |agg cs=>
  obtain⟨vs,hv,hl,hc⟩:=h;exact⟨vs,hv,hl,fun i c hi=>let⟨u,hu,hd⟩:=hc i c hi;⟨u,hu,bz.cM g aG hd⟩⟩
def b8(ρ:bL)(w:World):CV->Value->Prop
 | .ap,_=>True
 | .undef,v=>v=Go.undef
 | .rv r,v=>dW ρ w r v
 | .bF rs,v=>∃vs:List Value,v= .tuple vs.toArray/\vs.length=rs.length/\∀(i:Nat)r,rs[i]? =some r->∃u,vs[i]? =some u/\dW ρ w r u
theorem b8.cM{ρ ρ':bL}{w w':World}(g:iT ρ w ρ' w'){c:CV}{v:Value}(h:b8 ρ w c v):b8 ρ' w' c v:=by
 cases c with
 |ap=>trivial
 |undef=>exact h
 |rv r=>exact dW.cM g h
 |bF rs=>
  obtain⟨vs,hv,hl,hc⟩:=h;exact⟨vs,hv,hl,fun i c hi=>let⟨u,hu,hd⟩:=hc i c hi;⟨u,hu,dW.cM g hd⟩⟩
def mf(mk:Prop)(w:World)(b:Nat)(cur:Array Value):Prop:=
 ∃ty fr,w.heap[b]? =some (.cells cur ty fr)/\fr.1<=fr.2/\(∀i,i<cur.size->(decide (fr.1<=i)&&decide (i<fr.2))=false)/\(mk\/fr.2<=cur.size)
theorem mf.lt{mk:Prop}{w:World}{b:Nat}{cur:Array Value}(h:mf mk w b cur):b<w.heap.size:=by obtain⟨ty,fr,h,_⟩:=h;exact(aaF.1 h).1
theorem mf.cell{mk:Prop}{w:World}{b:Nat}{cur:Array Value}(h:mf mk w b cur)(i:Nat):w.cell? ⟨b,i,none⟩=cur[i]? :=by obtain⟨ty,fr,h,_⟩:=h;exact cell_of_row w b i cur ty fr h
theorem mf.iU{mk:Prop}{w:World}{b:Nat}{cur:Array Value}(h:mf mk w b cur){i:Nat}(hi:i<cur.size):w.frozen? ⟨b,i,none⟩=false:=by obtain⟨ty,fr,h,_,hf,_⟩:=h;simpa[World.frozen?,h]using hf i hi
theorem mf.dK{mk:Prop}{w w':World}{b:Nat}{cur:Array Value}(h:mf mk w b cur)(hb:w'.heap[b]? =w.heap[b]?):mf mk w' b cur:=by obtain⟨ty,fr,h,hf⟩:=h;exact⟨ty,fr,hb.trans h,hf⟩
theorem mf.new{mk:Prop}(w:World)(cur:Array Value)(ty:TypeId):mf mk (w.alloc (.cells cur ty)) w.heap.size cur:=
 ⟨ty,(0,0),heap_alloc_new w _,aaj _,(by intro i _;simp),.inr (aao _)⟩
def DP(ρ:bL)(w:World)(es:List ME)(cV:Array MapEntry):Prop:=
 cV.size=es.length/\∀(i:Nat)e,es[i]? =some e->∃e',cV[i]? =some e'/\e'.key=e.key/\dW ρ w e.val e'.val
def np(cV:Array MapEntry)(clock:Nat):Prop:=(∀e,e∈cV.toList->e.born<clock)/\(cV.toList.map (·.born)).Nodup
def TG(seen:Array Nat)(cV:Array MapEntry)(cur left:List (Value×Value)):Prop:=
 ((cV.filter fun e=>!seen.contains e.born).toList.map fun e=>(e.key,e.val))=left/\(∀p,p∈cur->∃(e:MapEntry)(Ku:Array Nat),e∈cV.toList/\seen=Ku.push e.born/\(e.key,e.val)=p)/\∀p,p∈left\/p∈cur->cT p.1=true/\cT p.2=true
def eF(ρ:bL)(w:World)(id:Nat):Bk->Prop
 | .bh=>True
 | .var cs=>∃cur,mf True w (ρ.aR (.au id)).b cur/\∀(j:Nat)c,cs[j]? =some c->∃u,cur[(ρ.aR (.au id)).ax+j]? =some u/\bz ρ w .none c u
 | .row esz elems=>elems.length=(ρ.aR (.au id)).len/\(ρ.aR (.au id)).len<=(ρ.aR (.au id)).cap/\(ρ.aR (.au id)).cap<=maxLen/\(∀cs,cs∈elems->cs.length=esz)/\
   (0<(ρ.aR (.au id)).cap->∃cur,mf (esz=1) w (ρ.aR (.au id)).b cur/\(ρ.aR (.au id)).ax+(ρ.aR (.au id)).cap*esz<=cur.size/\
    ∀(i:Nat)cs(j:Nat)c,elems[i]? =some cs->cs[j]? =some c->∃u,cur[(ρ.aR (.au id)).ax+i*esz+j]? =some u/\bz ρ w (some (id,i,j)) c u)
 | .mp es=>∃cV clock,(w.heap[(ρ.aR (.au id)).b]? =some (.map cV clock)/\np cV clock)/\DP ρ w es cV
 | .it cur left=>∃mb seen clock cV,w.heap[(ρ.aR (.au id)).b]? =some (.mapIter (some mb) clock seen clock)/\(ρ.aR (.au id)).ax=0/\ρ.S mb/\w.heap[mb]? =some (.map cV clock)/\np cV clock/\TG seen cV cur left
def fI(m:Mem)(id i j esz:Nat)(elems:List (List Dt)):Prop:=
 ∃es rows cs,m[id]? =some (.row es rows)/\rows[i]? =some cs/\cs[j]? =some (.gX esz elems)
def zs(ρ:bL)(w:World)(l:xA)(esz:Nat)(elems:List (List Dt)):Prop:=
 ∃cur,mf True w l.b cur/\l.ax+l.cap*esz<=cur.size/\(∀cs,cs∈elems->cs.length=esz)/\
  ∀(i:Nat)cs(j:Nat)d,elems[i]? =some cs->cs[j]? =some d->∃u,cur[l.ax+i*esz+j]? =some u/\dz ρ.S w d u
def Live(ρ:bL)(m:Mem):lT->Prop
 | .au id=>∃bk,m[id]? =some bk/\bk≠.bh/\((∃esz elems,bk= .row esz elems)->0<(ρ.aR (.au id)).cap)
 | .sub id i j=>(∃esz elems,fI m id i j esz elems)/\0<(ρ.aR (.sub id i j)).cap
structure aH(ρ:bL)(m:Mem)(w:World):Prop where
 n:ρ.n=m.length
 S:∀b,ρ.S b->b<w.heap.size
 aV:∀k,Live ρ m k->(ρ.aR k).b<w.heap.size/\¬ρ.S (ρ.aR k).b
 inj:∀k k',Live ρ m k->Live ρ m k'->(ρ.aR k).b=(ρ.aR k').b->k=k'
 bk:∀(id:Nat)b,m[id]? =some b->eF ρ w id b
 gX:∀id i j esz elems,fI m id i j esz elems->0<(ρ.aR (.sub id i j)).cap->zs ρ w (ρ.aR (.sub id i j)) esz elems
theorem Live.gB{ρ:bL}{m:Mem}{k:lT}(h:Live ρ m k):k.id<m.length:=by
 cases k with
 |au id=>obtain⟨bk,h,_⟩:=h;exact(aac.1 h).1
 |sub id i j=>obtain⟨⟨_,_,_,_,_,h,_⟩,_⟩:=h;exact(aac.1 h).1
structure Ext(ρ:bL)(m:Mem)(w:World)(ρ':bL)(m':Mem)(w':World):Prop where
 n:ρ.n<=ρ'.n
 aR:∀id,id<ρ.n->ρ'.aR (.au id)=ρ.aR (.au id)
 S:∀b,ρ.S b->ρ'.S b
 S':∀b,ρ'.S b->ρ.S b\/w.heap.size<=b\/∃k,Live ρ m k/\(ρ.aR k).b=b
 aV:∀k,Live ρ' m' k->w.heap.size<=(ρ'.aR k).b\/∃k0,Live ρ m k0/\(ρ.aR k0).b=(ρ'.aR k).b
 frame:∀b,b<w.heap.size->(∀k,Live ρ m k->(ρ.aR k).b≠b)->w'.heap[b]? =w.heap[b]?
 size:w.heap.size<=w'.heap.size
 os:w'.os=w.os
 tape:w'.tape=w.tape
 output:w'.output=w.output
theorem Ext.refl(ρ:bL)(m:Mem)(w:World):Ext ρ m w ρ m w:=
 ⟨aaj _,fun _ _=>rfl,fun _ h=>h,fun _ h=>.inl h,fun k h=>.inr ⟨k,h,rfl⟩,fun _ _ _=>rfl,aaj _,rfl,rfl,rfl⟩
theorem Ext.trans{ρ ρ1 ρ2:bL}{m m1 m2:Mem}{w w1 w2:World}(a:Ext ρ m w ρ1 m1 w1)(b:Ext ρ1 m1 w1 ρ2 m2 w2):Ext ρ m w ρ2 m2 w2 where
 n:=aa0 a.n b.n
 aR id h:=(b.aR id (aaH h a.n)).trans (a.aR id h)
 S x h:=b.S x (a.S x h)
 S' x h:=by
  rcases b.S' x h with h|h|⟨k,hk,he⟩
  .exact a.S' x h
  .exact .inr (.inl (aa0 a.size h))
  .rcases a.aV k hk with h|⟨k0,h0,e0⟩
   .exact .inr (.inl (he▸h))
   .exact .inr (.inr ⟨k0,h0,e0.trans he⟩)
 aV k h:=by
  rcases b.aV k h with h|⟨k1,h1,e1⟩
  .exact .inl (aa0 a.size h)
  .rcases a.aV k1 h1 with h|⟨k0,h0,e0⟩
   .exact .inl (e1▸h)
   .exact .inr ⟨k0,h0,e0.trans e1⟩
 frame x hx hk:=by
  refine(b.frame x (aaH hx a.size) fun k1 h1 e1=>?_).trans (a.frame x hx hk)
  rcases a.aV k1 h1 with h|⟨k0,h0,e0⟩
  .omega
  .exact hk k0 h0 (e0.trans e1)
 size:=aa0 a.size b.size
 os:=b.os.trans a.os
 tape:=b.tape.trans a.tape
 output:=b.output.trans a.output
theorem bz.ext{ρ ρ':bL}{m m':Mem}{w w':World}(hM:aH ρ m w)(x:Ext ρ m w ρ' m' w'){c:CC}{v:Value}(h:bz ρ w .none c v):bz ρ' w' .none c v:=by
 have hh:∀b,ρ.S b->w'.heap[b]? =w.heap[b]? :=fun b hb=>x.frame b (hM.S b hb) fun k hk e=>(hM.aV k hk).2 (e▸hb)
 let ρ1:bL:={n:=ρ'.n,aR:=fun k=>match k with| .au id=>ρ'.aR (.au id)|k=>if k.id<ρ.n then ρ.aR k else ρ'.aR k,S:=ρ'.S}
 have g:iT ρ w ρ1 w':=⟨x.n,fun k hk=>by
  cases k with
  |au id=>exact x.aR id hk
  |sub id i j=>simp only[ρ1];rw[if_pos hk],x.S,hh⟩
 have h1:=bz.cM g aG h;cases c<;>simp only[bz]at h1⊢
 case gX=>obtain⟨_,_,_,e,_⟩:=h1;cases e
 all_goals exact h1
theorem dW.ext{ρ ρ':bL}{m m':Mem}{w w':World}(hM:aH ρ m w)(x:Ext ρ m w ρ' m' w'){r:RV}{v:Value}(h:dW ρ w r v):dW ρ' w' r v:=by
 cases r with
 |one c=>exact bz.ext hM x h
 |agg cs=>
  obtain⟨vs,hv,hl,hc⟩:=h;exact⟨vs,hv,hl,fun i c hi=>let⟨u,hu,hd⟩:=hc i c hi;⟨u,hu,bz.ext hM x hd⟩⟩
theorem b8.ext{ρ ρ':bL}{m m':Mem}{w w':World}(hM:aH ρ m w)(x:Ext ρ m w ρ' m' w'){c:CV}{v:Value}(h:b8 ρ w c v):b8 ρ' w' c v:=by
 cases c with
 |ap=>trivial
 |undef=>exact h
 |rv r=>exact dW.ext hM x h
 |bF rs=>
  obtain⟨vs,hv,hl,hc⟩:=h;exact⟨vs,hv,hl,fun i c hi=>let⟨u,hu,hd⟩:=hc i c hi;⟨u,hu,dW.ext hM x hd⟩⟩
end Go.AM
