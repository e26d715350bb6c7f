/- Part 1 of 16. -/
import Derived.Calls
import Derived.Laws.AppendOwn
import Derived.Laws.Cells
import Derived.Laws.Tables
import Derived.Laws.Entries
import Derived.Below
import Derived.Deep.Quiet
set_option linter.unusedVariables false
set_option linter.unusedSimpArgs false
set_option maxRecDepth 100000
set_option maxHeartbeats 0
namespace Go.AM
abbrev vl:=@List.getElem?_eq_getElem
abbrev JJ:=@List.getElem?_eq_some_iff
abbrev Nr:=@List.length_map
abbrev OJ:=@Option.bind_eq_some_iff
abbrev Sf:=@List.getElem?_map
abbrev Sj:=@List.mem_of_getElem?
abbrev SC:=@List.getElem?_set_self
abbrev T3:=@Option.bind_eq_bind
abbrev T5:=@Nat.le_refl
abbrev Xg:=@List.getElem?_set_ne
abbrev Xi:=@List.getElem?_append_right
abbrev X1:=@List.getElem?_of_mem
abbrev YN:=@List.getElem?_append_left
abbrev aaa:=@Classical.byContradiction
abbrev aac:=@Bool.and_eq_true
abbrev aae:=@Int.toNat_natCast
abbrev aaf:=@Nat.lt_or_ge
abbrev aah:=@Nat.le_of_ble_eq_true
abbrev aai:=@List.eq_nil_of_length_eq_zero
abbrev aaj:=@List.length_cons
abbrev aam:=@Nat.eq_of_beq_eq_true
abbrev aan:=@Nat.zero_le
abbrev aar:=@List.getElem_mem
abbrev aas:=@List.mem_map
abbrev aat:=@Option.some.injEq
abbrev aau:=@Option.map_eq_some_iff
abbrev aav:=@List.length_take
abbrev aaw:=@Array.getElem?_eq_some_iff
abbrev aax:=@Option.map_some
abbrev aay:=@List.length_set
abbrev aaz:=@List.getElem?_eq_none
abbrev aaA:=@Nat.lt_of_lt_of_le
abbrev aaB:=@List.mem_cons
abbrev aaC:=@List.mem_or_eq_of_mem_set
abbrev aaF:=@List.getElem?_take
abbrev aaJ:=@List.map_cons
abbrev aaL:=@List.length_append
abbrev aaM:=@Nat.zero_add
abbrev aaN:=@List.take_length
abbrev aaO:=@List.findIdx?_eq_some_iff_getElem
abbrev aaQ:=@Nat.mul_le_mul_right
abbrev aaR:=@Nat.not_lt_zero
abbrev aaS:=@List.getElem?_set
abbrev aaT:=@List.any_eq_true
abbrev aaU:=@Nat.ble_eq
abbrev aaV:=@Array.getElem?_modify
abbrev aaW:=@Nat.add_assoc
abbrev aaX:=@List.getElem?_drop
abbrev aaY:=@List.mem_of_mem_take
abbrev aaZ:=@Nat.add_mul
abbrev aa9:=@List.length_nil
abbrev aby:=@List.map_append
abbrev abz:=@Nat.eq_zero_or_pos
abbrev abA:=@List.all_eq_true
abbrev abB:=@List.length_drop
abbrev abC:=@List.getElem?_cons_succ
abbrev abD:=@Array.getElem?_toList
abbrev abH:=@Option.getD_some
abbrev abL:=@List.mem_append
abbrev abM:=@List.map_set
abbrev abN:=@List.ext_getElem?
abbrev abO:=@Array.getD_eq_getD_getElem?
abbrev abP:=@Nat.le_trans
abbrev abQ:=@List.take_add_one
abbrev abS:=@List.nodup_cons
abbrev abV:=@Array.getElem?_eq_getElem
abbrev abW:=@Nat.blt_eq
abbrev abZ:=@List.map_map
abbrev ab0:=@Bool.false_eq_true
abbrev ab1:=@List.take_of_length_le
abbrev ab2:=@Bool.not_eq_true'
abbrev ab3:=@List.append_nil
abbrev ab4:=@List.pairwise_iff_getElem
abbrev ab6:=@Array.length_toList
abbrev ab7:=@List.getElem?_take_of_lt
abbrev ab8:=@Bool.or_eq_true
abbrev ab9:=@Array.ext'
abbrev aca:=@List.filter_cons
abbrev acb:=@List.mem_cons_of_mem
abbrev acd:=@Array.getElem?_setIfInBounds_self_of_lt
abbrev ace:=@Nat.one_mul
abbrev acf:=@Nat.lt_succ_self
abbrev acg:=@List.length_mapIdx
abbrev ach:=@Array.getElem?_setIfInBounds
abbrev aci:=@List.mem_of_mem_drop
abbrev acj:=@List.getElem?_mapIdx
abbrev ack:=@List.getElem?_cons_zero
abbrev acm:=@List.mem_filter
abbrev acn:=@List.mem_singleton
abbrev aco:=@Array.getElem?_setIfInBounds_ne
abbrev acp:=@List.eq_of_mem_replicate
abbrev acq:=@Array.getElem?_push
abbrev acr:=@Nat.sub_zero
abbrev acs:=@List.pairwise_cons
abbrev acu:=@List.length_filter_le
abbrev acv:=@Array.getElem?_append_left
abbrev acw:=@Bool.false_or
abbrev acx:=@List.map_take
abbrev acy:=@List.append_assoc
abbrev acz:=@List.findIdx?_eq_none_iff
abbrev acA:=@Nat.sub_self
abbrev acB:=@Nat.add_zero
abbrev acC:=@List.not_mem_nil
abbrev acD:=@List.set_set
abbrev acE:=@List.map_congr_left
abbrev acF:=@List.filter_eq_self
abbrev acG:=@Nat.ne_of_beq_eq_false
abbrev acH:=@List.take_append_drop
abbrev acI:=@Bool.and_eq_false_iff
abbrev acJ:=@Option.getD_none
abbrev acK:=@Bool.and_eq_true_iff
abbrev acL:=@Bool.not_eq_true
abbrev acM:=@Prod.mk.injEq
abbrev acN:=@Int.le_refl
abbrev acO:=@List.getElem_of_mem
abbrev acP:=@Nat.min_eq_left
abbrev acQ:=@List.drop_eq_getElem_cons
abbrev acR:=@List.getElem?_eq_none_iff
abbrev acS:=@List.exists_mem_of_ne_nil
abbrev acT:=@Nat.mul_comm
abbrev acU:=@List.drop_zero
abbrev acV:=@List.getElem?_replicate
abbrev acW:=@Nat.le_mul_of_pos_right
abbrev acX:=@List.length_eq_zero_iff
abbrev acY:=@Nat.lt_trichotomy
abbrev acZ:=@Function.comp_def
abbrev ac0:=@List.drop_eq_nil_of_le
abbrev ac1:=@List.range'_succ
abbrev ac2:=@Nat.lt_of_not_le
abbrev ac3:=@List.set_append_right
abbrev ac4:=@List.range_eq_range'
abbrev ac5:=@Nat.zero_mul
abbrev ac6:=@Array.mem_toList_iff
abbrev ac7:=@List.map_nil
abbrev ac8:=@Nat.beq_refl
abbrev ac9:=@Bool.eq_iff_iff
abbrev ada:=@Option.some.inj
abbrev adb:=@List.mem_map_of_mem
abbrev ade:=@List.length_pos_iff
abbrev adg:=@Array.getElem?_map
abbrev adh:=@List.find?_eq_none
abbrev adi:=@List.filter_append
abbrev adj:=@List.set_cons_zero
abbrev adk:=@Bool.not_true
abbrev adl:=@Bool.true_and
abbrev adp:=@List.map_drop
abbrev adq:=@List.filter_congr
abbrev adu:=@Nat.mod_eq_of_lt
abbrev adv:=@List.cons_append
abbrev adA:=@List.cons.injEq
abbrev adB:=@Nat.mul_add_mod
abbrev adC:=@List.nil_append
abbrev adD:=@Nat.sub_mul
abbrev adH:=@Nat.min_def
theorem om{p:Prop}(h:p:=by omega):p:=h
theorem aC{p:Prop}(h:p:=by simp):p:=h
end Go.AM
namespace Go.AM
inductive Dt where
 |val (v:Value)
 |sl (esz:Nat) (elems:List (List Dt))
inductive CC where
 |aF
 |ah (d:Dt)
 |ptr (id j:Nat)
 |nv (id esz i j:Nat)
 |rk (cs:List Dt)
 |row (id esz lo:Nat) (hi:Option Nat)
 |aK
 |map (id:Nat)
 |fn (f:Nat) (eD:List Nat)
 |d5 (esz:Nat) (elems:List (List Dt))
inductive RV where
 |one (c:CC)
 |agg (cs:List CC)
inductive CV where
 |aF
 |undef
 |rv (r:RV)
 |bz (rs:List RV)
structure ME where
 key:Value
 val:RV
inductive MV where
 |d5 (elems:List (List Dt))
 |row (n:Nat)
structure MO where
 key:Value
 val:MV
def MO.cc(esz:Nat)(e:MO):CC:=match e.val with| .d5 l=>.d5 esz l| .row n=>.row n esz 0 none
inductive Bk where
 |aR
 |var (cs:List CC)
 |row (esz:Nat) (elems:List (List CC))
 |mp (es:List ME)
 |it (cur left:List (Value×Value))
 |mo (esz:Nat) (es:List MO) (so:Option (List Nat×Nat))
 |iw (mid gZ:Nat) (seen:List Nat)
abbrev Mem:=List Bk
structure St where
 aX:List CV
 mem:Mem
structure vH where
 b:Nat
 ar:Nat
 len:Nat
 cap:Nat
inductive gd where
 |aj (id:Nat)
 |sub (id i j:Nat)
def gd.id:gd->Nat
 | .aj id=>id
 | .sub id _ _=>id
structure bG where
 n:Nat
 aH:gd->vH
 S:Nat->Prop
def cn:Value->Bool
 | .bool _| .int _ _| .string _| .pointer none| .nilFunc| .map none| .nilIface=>true
 |_=>false
theorem cn.one{v:Value}(h:cn v=true):v.oneCell'=true:=by
 cases v<;>simp_all[cn,Value.oneCell']
inductive de(S:Nat->Prop)(w:World):Dt->Value->Prop
 |val (v:Value) (h:cn v=true):de S w (.val v) v
 |no (a:Option Addr):de S w (.val (.slice none 0 0)) (.slice a 0 0)
 |nil (esz:Nat) (a:Option Addr) (cap:Nat) (hc:cap<=maxLen):de S w (.sl esz []) (.slice a 0 cap)
 |sl (esz:Nat) (elems:List (List Dt)) (b off cap:Nat) (u:Nat->Nat->Value) (hS:S b) (hl:elems.length<=cap) (bc:cap<=maxLen)
   (dj:∀cs,cs∈elems->cs.length=esz)
   (hc:∀i cs j d,elems[i]? =some cs->cs[j]? =some d->w.cell? ⟨b,off+i*esz+j,none⟩=some (u i j))
   (hd:∀i cs j d,elems[i]? =some cs->cs[j]? =some d->de S w d (u i j)):
   de S w (.sl esz elems) (.slice (some ⟨b,off,none⟩) elems.length cap)
theorem de.one{S:Nat->Prop}{w:World}{d:Dt}{v:Value}(h:de S w d v):v.oneCell'=true:=by
 cases h with
 |val v h=>exact cn.one h
 |no=>rfl
 |nil=>rfl
 |sl=>rfl
theorem de.mono{S S':Nat->Prop}{w w':World}(hS:∀b,S b->S' b)(hw:∀b,S b->w'.heap[b]? =w.heap[b]?){d:Dt}{v:Value}(h:de S w d v):de S' w' d v:=by
 induction h with
 |val v h=>exact .val v h
 |no a=>exact .no a
 |nil esz a cap hc=>exact .nil esz a cap hc
 |sl esz elems b off cap u hb hl bc dj hc hd ih=>
  exact .sl esz elems b off cap u (hS b hb) hl bc dj
   (λi cs j d hi hj=>by rw[World.cell?_of_block (a:=⟨b,off+i*esz+j,none⟩) (hw b hb)];exact hc i cs j d hi hj) ih
def bi(ρ:bG)(w:World)(pos:Option (Nat×Nat×Nat)):CC->Value->Prop
 | .aF,v=>v.oneCell'=true
 | .ah d,v=>de ρ.S w d v
 | .ptr id j,v=>id<ρ.n/\v= .pointer (some ⟨(ρ.aH (.aj id)).b,(ρ.aH (.aj id)).ar+j,none⟩)
 | .nv id esz i j,v=>id<ρ.n/\v= .pointer (some ⟨(ρ.aH (.aj id)).b,(ρ.aH (.aj id)).ar+i*esz+j,none⟩)
 | .rk cs,v=>∃b off,v= .pointer (some ⟨b,off,none⟩)/\ρ.S b/\∀j d,cs[j]? =some d->∃u,w.cell? ⟨b,off+j,none⟩=some u/\de ρ.S w d u
 | .row id esz lo hi,v=>id<ρ.n/\lo<=hi.getD (ρ.aH (.aj id)).len/\hi.getD (ρ.aH (.aj id)).len<=(ρ.aH (.aj id)).len/\(ρ.aH (.aj id)).len<=(ρ.aH (.aj id)).cap/\(ρ.aH (.aj id)).cap<=maxLen/\
   ∃a,v= .slice a (hi.getD (ρ.aH (.aj id)).len-lo) ((ρ.aH (.aj id)).cap-lo)/\(lo<(ρ.aH (.aj id)).cap->a=some ⟨(ρ.aH (.aj id)).b,(ρ.aH (.aj id)).ar+lo*esz,none⟩)
 | .aK,v=>∃a,v= .slice a 0 0
 | .map id,v=>id<ρ.n/\v= .map (some (ρ.aH (.aj id)).b)
 | .fn f eD,v=>(∀id,id∈eD->id<ρ.n)/\
   v= .func (.func f) #[] (eD.map λid=>Value.pointer (some ⟨(ρ.aH (.aj id)).b,(ρ.aH (.aj id)).ar,none⟩)).toArray
 | .d5 esz elems,v=>∃id i j,pos=some (id,i,j)/\elems.length<=(ρ.aH (.sub id i j)).cap/\(ρ.aH (.sub id i j)).cap<=maxLen/\
   ∃a,v= .slice a elems.length (ρ.aH (.sub id i j)).cap/\
    (0<(ρ.aH (.sub id i j)).cap->a=some ⟨(ρ.aH (.sub id i j)).b,(ρ.aH (.sub id i j)).ar,none⟩)
theorem bi.one{ρ:bG}{w:World}{pos:Option (Nat×Nat×Nat)}{c:CC}{v:Value}(h:bi ρ w pos c v):v.oneCell'=true:=by
 cases c<;>simp only[bi]at h
 case aF=>exact h
 case ah=>exact h.one
 case ptr=>rw[h.2];rfl
 case nv=>rw[h.2];rfl
 case rk=>obtain⟨_,_,rfl,_⟩:=h;rfl
 case row=>obtain⟨_,_,_,_,_,_,rfl,_⟩:=h;rfl
 case aK=>obtain⟨_,rfl⟩:=h;rfl
 case map=>rw[h.2];rfl
 case fn=>rw[h.2];rfl
 case d5=>obtain⟨_,_,_,_,_,_,_,rfl,_⟩:=h;rfl
structure iA(ρ:bG)(w:World)(U':bG)(w':World):Prop where
 n:ρ.n<=U'.n
 aH:∀k:gd,k.id<ρ.n->U'.aH k=ρ.aH k
 S:∀b,ρ.S b->U'.S b
 heap:∀b,ρ.S b->w'.heap[b]? =w.heap[b]?
theorem bi.ce{ρ U':bG}{w w':World}{pos:Option (Nat×Nat×Nat)}(g:iA ρ w U' w')(hp:∀id i j,pos=some (id,i,j)->id<ρ.n){c:CC}{v:Value}(h:bi ρ w pos c v):bi U' w' pos c v:=by
 cases c<;>simp only[bi]at h|-
 case aF=>exact h
 case ah=>exact h.mono g.S g.heap
 case ptr id j=>rw[g.aH (.aj id) h.1];exact⟨aaA h.1 g.n,h.2⟩
 case nv id _ _ _=>rw[g.aH (.aj id) h.1];exact⟨aaA h.1 g.n,h.2⟩
 case rk cs=>
  obtain⟨b,off,hv,hb,hc⟩:=h;refine⟨b,off,hv,g.S b hb,λj d hj=>?_⟩
  obtain⟨u,hu,hd⟩:=hc j d hj;exact⟨u,by rw[World.cell?_of_block (a:=⟨b,off+j,none⟩) (g.heap b hb)];exact hu,hd.mono g.S g.heap⟩
 case row id _ _ _=>rw[g.aH (.aj id) h.1];exact⟨aaA h.1 g.n,h.2⟩
 case aK=>exact h
 case map id=>rw[g.aH (.aj id) h.1];exact⟨aaA h.1 g.n,h.2⟩
 case fn f eD=>
  refine⟨λid hid=>aaA (h.1 id hid) g.n,?_⟩
  rw[h.2];congr 2;refine acE λid hid=>?_
  rw[g.aH (.aj id) (h.1 id hid)]
 case d5 esz elems=>
  obtain⟨id,i,j,cH,rm⟩:=h;refine⟨id,i,j,cH,?_⟩;rw[g.aH (.sub id i j) (hp id i j cH)];exact rm
def df(ρ:bG)(w:World):RV->Value->Prop
 | .one c,v=>bi ρ w .none c v
 | .agg cs,v=>∃vs:List Value,v= .agg vs.toArray/\vs.length=cs.length/\∀(i:Nat)c,cs[i]? =some c->∃u,vs[i]? =some u/\bi ρ w .none c u
theorem df.ce{ρ U':bG}{w w':World}(g:iA ρ w U' w'){r:RV}{v:Value}(h:df ρ w r v):df U' w' r v:=by
 cases r with
 |one c=>exact bi.ce g aC h
 |agg cs=>
  obtain⟨vs,hv,hl,hc⟩:=h;exact⟨vs,hv,hl,λi c hi=>let⟨u,hu,hd⟩:=hc i c hi;⟨u,hu,bi.ce g aC hd⟩⟩
def bZ(ρ:bG)(w:World):CV->Value->Prop
 | .aF,_=>True
 | .undef,v=>v=Go.undef
 | .rv r,v=>df ρ w r v
 | .bz rs,v=>∃vs:List Value,v= .tuple vs.toArray/\vs.length=rs.length/\∀(i:Nat)r,rs[i]? =some r->∃u,vs[i]? =some u/\df ρ w r u
theorem bZ.ce{ρ U':bG}{w w':World}(g:iA ρ w U' w'){c:CV}{v:Value}(h:bZ ρ w c v):bZ U' w' c v:=by
 cases c with
 |aF=>trivial
 |undef=>exact h
 |rv r=>exact df.ce g h
 |bz rs=>
  obtain⟨vs,hv,hl,hc⟩:=h;exact⟨vs,hv,hl,λi c hi=>let⟨u,hu,hd⟩:=hc i c hi;⟨u,hu,df.ce g hd⟩⟩
def mf(mk:Prop)(w:World)(b:Nat)(cur:Array Value):Prop:=
 ∃ty fr,w.heap[b]? =some (.cells cur ty fr)/\fr.1<=fr.2/\(∀i,i<cur.size->(decide (fr.1<=i)&&decide (i<fr.2))=false)/\(mk\/fr.2<=cur.size)
theorem mf.lt{mk:Prop}{w:World}{b:Nat}{cur:Array Value}(h:mf mk w b cur):b<w.heap.size:=by obtain⟨ty,fr,h,_⟩:=h;exact(aaw.1 h).1
theorem mf.cell{mk:Prop}{w:World}{b:Nat}{cur:Array Value}(h:mf mk w b cur)(i:Nat):w.cell? ⟨b,i,none⟩=cur[i]? :=by obtain⟨ty,fr,h,_⟩:=h;exact cell_of_row w b i cur ty fr h
theorem mf.qt{mk:Prop}{w:World}{b:Nat}{cur:Array Value}(h:mf mk w b cur){i:Nat}(hi:i<cur.size):w.frozen? ⟨b,i,none⟩=false:=by obtain⟨ty,fr,h,_,hf,_⟩:=h;simpa[World.frozen?,h]using hf i hi
theorem mf.dB{mk:Prop}{w w':World}{b:Nat}{cur:Array Value}(h:mf mk w b cur)(hb:w'.heap[b]? =w.heap[b]?):mf mk w' b cur:=by obtain⟨ty,fr,h,hf⟩:=h;exact⟨ty,fr,hb.trans h,hf⟩
theorem mf.new{mk:Prop}(w:World)(cur:Array Value)(ty:TypeId):mf mk (w.alloc (.cells cur ty)) w.heap.size cur:=
 ⟨ty,(0,0),heap_alloc_new w _,T5 _,(by intro i _;simp),.inr (aan _)⟩
def Ag(ρ:bG)(w:World)(es:List ME)(br:Array MapEntry):Prop:=
 br.size=es.length/\∀(i:Nat)e,es[i]? =some e->∃e',br[i]? =some e'/\e'.key=e.key/\df ρ w e.val e'.val
def gR(br:Array MapEntry)(clock:Nat):Prop:=(∀e,e∈br.toList->e.born<clock)/\(br.toList.map (·.born)).Nodup
def Vg(seen:Array Nat)(br:Array MapEntry)(cur left:List (Value×Value)):Prop:=
 ((br.filter λe=>!seen.contains e.born).toList.map λe=>(e.key,e.val))=left/\(∀p,p∈cur->∃(e:MapEntry)(Lh:Array Nat),e∈br.toList/\seen=Lh.push e.born/\(e.key,e.val)=p)/\∀p,p∈left\/p∈cur->cn p.1=true/\cn p.2=true
def cI(ρ:bG)(w:World)(id:Nat):Bk->Prop
 | .aR=>True
 | .var cs=>∃cur,mf True w (ρ.aH (.aj id)).b cur/\∀(j:Nat)c,cs[j]? =some c->∃u,cur[(ρ.aH (.aj id)).ar+j]? =some u/\bi ρ w .none c u
 | .row esz elems=>elems.length=(ρ.aH (.aj id)).len/\(ρ.aH (.aj id)).len<=(ρ.aH (.aj id)).cap/\(ρ.aH (.aj id)).cap<=maxLen/\(∀cs,cs∈elems->cs.length=esz)/\
   (0<(ρ.aH (.aj id)).cap->∃cur,mf (esz=1) w (ρ.aH (.aj id)).b cur/\(ρ.aH (.aj id)).ar+(ρ.aH (.aj id)).cap*esz<=cur.size/\
    ∀(i:Nat)cs(j:Nat)c,elems[i]? =some cs->cs[j]? =some c->∃u,cur[(ρ.aH (.aj id)).ar+i*esz+j]? =some u/\bi ρ w (some (id,i,j)) c u)
 | .mp es=>∃br clock,(w.heap[(ρ.aH (.aj id)).b]? =some (.map br clock)/\gR br clock)/\Ag ρ w es br
 | .it cur left=>∃mb seen clock br,w.heap[(ρ.aH (.aj id)).b]? =some (.mapIter (some mb) clock seen clock)/\(ρ.aH (.aj id)).ar=0/\ρ.S mb/\w.heap[mb]? =some (.map br clock)/\gR br clock/\Vg seen br cur left
 | .mo esz es so=>∃br clock,(w.heap[(ρ.aH (.aj id)).b]? =some (.map br clock)/\gR br clock)/\(br.size=es.length/\∀(i:Nat)e,es[i]? =some e->∃e',br[i]? =some e'/\e'.key=e.key/\cn e.key=true/\bi ρ w (some (id,i,0)) (e.cc esz) e'.val)/\
   ∀st gZ,so=some (st,gZ)->clock=gZ/\br.toList.map (·.born)=st
 | .iw mid gZ seen=>mid<ρ.n/\(ρ.aH (.aj id)).ar=0/\∃s:Array Nat,w.heap[(ρ.aH (.aj id)).b]? =some (.mapIter (some (ρ.aH (.aj mid)).b) gZ s gZ)/\s.toList.reverse=seen
inductive pV:Bk->Nat->Nat->Nat->List (List Dt)->Prop
 |row {es:Nat} {rows:List (List CC)} {cs:List CC} {i j esz:Nat} {elems:List (List Dt)} (hi:rows[i]? =some cs) (hj:cs[j]? =some (.d5 esz elems)):pV (.row es rows) i j esz elems
 |mo {esz:Nat} {es:List MO} {so:Option (List Nat×Nat)} {i:Nat} {k:Value} {elems:List (List Dt)} (hi:es[i]? =some ⟨k,.d5 elems⟩):pV (.mo esz es so) i 0 esz elems
theorem pV.yi{es:Nat}{rows:List (List CC)}{i j s:Nat}{e:List (List Dt)}(h:pV (.row es rows) i j s e):∃cs,rows[i]? =some cs/\cs[j]? =some (.d5 s e):=by
 cases h with
 |row hi hj=>exact⟨_,hi,hj⟩
theorem pV.Rm{s0:Nat}{es:List MO}{so:Option (List Nat×Nat)}{i j s:Nat}{e:List (List Dt)}(h:pV (.mo s0 es so) i j s e):∃k,es[i]? =some ⟨k,.d5 e⟩/\j=0/\s=s0:=by
 cases h with
 |mo hi=>exact⟨_,hi,rfl,rfl⟩
def dP(m:Mem)(id i j esz:Nat)(elems:List (List Dt)):Prop:=
 ∃bk,m[id]? =some bk/\pV bk i j esz elems
def qv(ρ:bG)(w:World)(l:vH)(esz:Nat)(elems:List (List Dt)):Prop:=
 ∃cur,mf (esz=1) w l.b cur/\l.ar+l.cap*esz<=cur.size/\(∀cs,cs∈elems->cs.length=esz)/\
  ∀(i:Nat)cs(j:Nat)d,elems[i]? =some cs->cs[j]? =some d->∃u,cur[l.ar+i*esz+j]? =some u/\de ρ.S w d u
def Live(ρ:bG)(m:Mem):gd->Prop
 | .aj id=>∃bk,m[id]? =some bk/\bk≠.aR/\((∃esz elems,bk= .row esz elems)->0<(ρ.aH (.aj id)).cap)
 | .sub id i j=>(∃esz elems,dP m id i j esz elems)/\0<(ρ.aH (.sub id i j)).cap
structure ax(ρ:bG)(m:Mem)(w:World):Prop where
 n:ρ.n=m.length
 S:∀b,ρ.S b->b<w.heap.size
 aP:∀k,Live ρ m k->(ρ.aH k).b<w.heap.size/\¬ρ.S (ρ.aH k).b
 inj:∀k k',Live ρ m k->Live ρ m k'->(ρ.aH k).b=(ρ.aH k').b->k=k'
 bk:∀(id:Nat)b,m[id]? =some b->cI ρ w id b
 d5:∀id i j esz elems,dP m id i j esz elems->0<(ρ.aH (.sub id i j)).cap->qv ρ w (ρ.aH (.sub id i j)) esz elems
theorem Live.eK{ρ:bG}{m:Mem}{k:gd}(h:Live ρ m k):k.id<m.length:=by
 cases k with
 |aj id=>obtain⟨bk,h,_⟩:=h;exact(JJ.1 h).1
 |sub id i j=>obtain⟨⟨_,_,_,h,_⟩,_⟩:=h;exact(JJ.1 h).1
structure Ext(ρ:bG)(m:Mem)(w:World)(U':bG)(m':Mem)(w':World):Prop where
 n:ρ.n<=U'.n
 aH:∀id,id<ρ.n->U'.aH (.aj id)=ρ.aH (.aj id)
 S:∀b,ρ.S b->U'.S b
 S':∀b,U'.S b->ρ.S b\/w.heap.size<=b\/∃k,Live ρ m k/\(ρ.aH k).b=b
 aP:∀k,Live U' m' k->w.heap.size<=(U'.aH k).b\/∃k0,Live ρ m k0/\(ρ.aH k0).b=(U'.aH k).b
 frame:∀b,b<w.heap.size->(∀k,Live ρ m k->(ρ.aH k).b≠b)->w'.heap[b]? =w.heap[b]?
 size:w.heap.size<=w'.heap.size
 os:w'.os=w.os
 tape:w'.tape=w.tape
 output:w'.output=w.output
theorem Ext.refl(ρ:bG)(m:Mem)(w:World):Ext ρ m w ρ m w:=
 ⟨T5 _,λ_ _=>rfl,λ_ h=>h,λ_ h=>.inl h,λk h=>.inr ⟨k,h,rfl⟩,λ_ _ _=>rfl,T5 _,rfl,rfl,rfl⟩
theorem Ext.trans{ρ ρ1 ρ2:bG}{m m1 m2:Mem}{w w1 w2:World}(a:Ext ρ m w ρ1 m1 w1)(b:Ext ρ1 m1 w1 ρ2 m2 w2):Ext ρ m w ρ2 m2 w2 where
 n:=abP a.n b.n
 aH id h:=(b.aH id (aaA h a.n)).trans (a.aH id h)
 S x h:=b.S x (a.S x h)
 S' x h:=by
  rcases b.S' x h with h|h|⟨k,hk,he⟩
  .exact a.S' x h
  .exact .inr (.inl (abP a.size h))
  .rcases a.aP k hk with h|⟨k0,h0,e0⟩
   .exact .inr (.inl (he▸h))
   .exact .inr (.inr ⟨k0,h0,e0.trans he⟩)
 aP k h:=by
  rcases b.aP k h with h|⟨k1,h1,e1⟩
  .exact .inl (abP a.size h)
  .rcases a.aP k1 h1 with h|⟨k0,h0,e0⟩
   .exact .inl (e1▸h)
   .exact .inr ⟨k0,h0,e0.trans e1⟩
 frame x hx hk:=by
  refine(b.frame x (aaA hx a.size) λk1 h1 e1=>?_).trans (a.frame x hx hk)
  rcases a.aP k1 h1 with h|⟨k0,h0,e0⟩
  .omega
  .exact hk k0 h0 (e0.trans e1)
 size:=abP a.size b.size
 os:=b.os.trans a.os
 tape:=b.tape.trans a.tape
 output:=b.output.trans a.output
theorem bi.ext{ρ U':bG}{m m':Mem}{w w':World}(hM:ax ρ m w)(x:Ext ρ m w U' m' w'){c:CC}{v:Value}(h:bi ρ w .none c v):bi U' w' .none c v:=by
 have hh:∀b,ρ.S b->w'.heap[b]? =w.heap[b]? :=λb hb=>x.frame b (hM.S b hb) λk hk e=>(hM.aP k hk).2 (e▸hb)
 let ρ1:bG:={n:=U'.n,aH:=λk=>match k with| .aj id=>U'.aH (.aj id)|k=>if k.id<ρ.n then ρ.aH k else U'.aH k,S:=U'.S}
 have g:iA ρ w ρ1 w':=⟨x.n,λk hk=>by
  cases k with
  |aj id=>exact x.aH id hk
  |sub id i j=>simp only[ρ1];rw[if_pos hk],x.S,hh⟩
 have h1:=bi.ce g aC h;cases c<;>simp only[bi]at h1|-
 case d5=>obtain⟨_,_,_,e,_⟩:=h1;cases e
 all_goals exact h1
theorem df.ext{ρ U':bG}{m m':Mem}{w w':World}(hM:ax ρ m w)(x:Ext ρ m w U' m' w'){r:RV}{v:Value}(h:df ρ w r v):df U' w' r v:=by
 cases r with
 |one c=>exact bi.ext hM x h
 |agg cs=>
  obtain⟨vs,hv,hl,hc⟩:=h;exact⟨vs,hv,hl,λi c hi=>let⟨u,hu,hd⟩:=hc i c hi;⟨u,hu,bi.ext hM x hd⟩⟩
theorem bZ.ext{ρ U':bG}{m m':Mem}{w w':World}(hM:ax ρ m w)(x:Ext ρ m w U' m' w'){c:CV}{v:Value}(h:bZ ρ w c v):bZ U' w' c v:=by
 cases c with
 |aF=>trivial
 |undef=>exact h
 |rv r=>exact df.ext hM x h
 |bz rs=>
  obtain⟨vs,hv,hl,hc⟩:=h;exact⟨vs,hv,hl,λi c hi=>let⟨u,hu,hd⟩:=hc i c hi;⟨u,hu,df.ext hM x hd⟩⟩
end Go.AM
