/- Part 14 of 18. -/
import Derived.Test.YtojhmadmlnfpcaaGreatDoorS10
import Derived.Test.YtojhmadmlnfpcaaGreatDoorS11
import Derived.Test.YtojhmadmlnfpcaaGreatDoorS12
import Derived.Test.YtojhmadmlnfpcaaGreatDoorS13
import Derived.Shelf.Spec.SlicesInsert
import Derived.Lib.AppendZerosOnto
import Derived.Laws.NewBlocks
set_option linter.unusedVariables false
set_option linter.unusedSimpArgs false
set_option linter.unnecessarySimpa false
set_option maxRecDepth 100000
set_option maxHeartbeats 0
namespace Go.Proofs.YtojhmadmlnfpcaaGreatDoor
open Go.AM Go.ChangeShapes Go.WideShapes Go.ChangeAt Go.RowKit
open Go.Shelf Go.Lib
theorem j9{P:Program}(w:World)(dT sT ty elem:TypeId)(b o dLen dCap:Nat)(a:Addr)(sLen sCap:Nat)(cs:List Value)(hu:P.underlying dT=some (.slice elem))(hs:(P.info? elem).map (·.size)=some 2)(hn:Nat.min sLen dLen*2=cs.length)(hsrc:∀j v,cs[j]? =some v->w.cell? (a.add j)=some v)(hc:∀j,j<cs.length->(w.cell? ⟨b,o+j,none⟩).isSome=true)(hf:∀j,j<cs.length->w.frozen? ⟨b,o+j,none⟩=false)(h1:∀v∈cs,v.oneCell'=true):
  (Builtin.copy_ #[dT,sT] ty #[.slice (some ⟨b,o,none⟩) dLen dCap,.slice (some a) sLen sCap]).run P w= .ok (goInt (Nat.min sLen dLen)) (w.setCells b o cs):=by
 have hl:=run_loadCells_list (P:=P) w a cs hsrc;have hst:=run_storeCells_cells (P:=P) b o cs 0 w (by simpa using hc) (by simpa using hf) h1
 cases hq:P.info? elem with
 |none=>simp[hq]at hs
 |some i=>
  have hi:i.size=2:=by simpa[hq]using hs
  simp[Builtin.copy_,run_underlying hu,Builtin.lenOf,Builtin.firstCells,sizeOf,typeInfo,hq,hi,hn,hl,hst]
open Go.Shelf Go.Lib in
theorem Ah(b off n c i vb voff vc:Nat)(cs vs:List Value)(w:World)(hi:i<n)(hroom:n+1<=c)(hc63:c<=9223372036854775807)(hvb:vb≠b)(hcl:cs.length=n*2)(hvl:vs.length=2)(hcs:∀j v,cs[j]? =some v->w.cell? ⟨b,off+j,none⟩=some v)(hsp:∀j,j<(n+1)*2->(w.cell? ⟨b,off+j,none⟩).isSome=true)(hfz:∀j,j<(n+1)*2->w.frozen? ⟨b,off+j,none⟩=false)(hvs:∀j v,vs[j]? =some v->w.cell? ⟨vb,voff+j,none⟩=some v)(h1c:∀v∈cs,v.oneCell'=true)(h1v:∀v∈vs,v.oneCell'=true)(tA tB:TypeId)(kA kB:Nat)(hsa:w.shape? vb=some (tA,kA))(hsb:w.shape? b=some (tB,kB))(hkB:kB≠0)(hfa:w.frozen? ⟨vb,voff,none⟩=false)(hfe:w.frozen? ⟨vb,kA,none⟩=false):
  Calls Tryz.prog 147 #[.slice (some ⟨b,off,none⟩) n c,.int .i64 i,.slice (some ⟨vb,voff,none⟩) 1 vc] w fun e w'=>
   e= .returned (.slice (some ⟨b,off,none⟩) (n+1) c)/\w'=(w.drew.setCells b (off+(i+1)*2) (cs.drop (i*2))).setCells b (off+i*2) vs:=by
 have hz2:¬((i:Int)=(n:Int)):=om;have hov:∀lb cb,(callFunc 158 #[.slice (some ⟨vb,voff,none⟩) 1 vc,.slice (some ⟨b,off+(i+1)*2,none⟩) lb cb]).run Tryz.prog w= .ok (.value (.bool false)) w:=fun lb cb=>by
  rw[run_callFunc_extern Tryz.func158 (by kernel_rfl) (by kernel_rfl) (by kernel_rfl) (e:=Extern.SlicesOverlaps.overlaps #[82,82] #[4]) (by kernel_rfl),
   Lib.run_overlaps_apart w 82 4 112 Tryz.underlying82 2 (fun w=>by kernel_rfl) ⟨vb,voff,none⟩ ⟨b,off+(i+1)*2,none⟩ 1 vc lb cb hvb tA tB kA kB hsa hsb hkB hfa hfe]
  rfl
 have hsz:(Tryz.prog.info? 112).map (·.size)=some 2:=by kernel_rfl
 have hdl:(cs.drop (i*2)).length=(n-i)*2:=by rw[abK,hcl,ads]
 have hw1:IntKind.i64.wrap ((i:Int)+1)=(i:Int)+1:=by rw[IntKind.wrap_i64];omega
 have hw2:IntKind.i64.wrap ((n:Int)+1)=(n:Int)+1:=by rw[IntKind.wrap_i64];omega
 have hb1:(0:Int)<=(i:Int)+1:=om;have hin:i<=n:=om;have htn:((i:Int)+1).toNat=i+1:=om;have htn2:((n:Int)+1).toNat=n+1:=om;have hb2:¬(c=i+1):=om;have hb3:(i:Int)<=(n:Int)+1:=om;have hb4:¬(c=i):=om;have hcp1:∀ty dc sc,(Builtin.copy_ #[82,82] ty #[.slice (some ⟨b,off+(i+1)*2,none⟩) (n-i) dc,.slice (some ⟨b,off+i*2,none⟩) (n+1-i) sc]).run Tryz.prog w.drew= .ok (goInt ((n-i:Nat):Int)) (w.drew.setCells b (off+(i+1)*2) (cs.drop (i*2))):=fun ty dc sc=>by
  have hm:Nat.min (n+1-i) (n-i)=n-i:=by simp only[adt];split<;>omega
  have:=j9 (P:=Tryz.prog) w.drew 82 82 ty 112 b (off+(i+1)*2) (n-i) dc ⟨b,off+i*2,none⟩ (n+1-i) sc (cs.drop (i*2)) Tryz.underlying82 hsz (by rw[hm,hdl])
   (fun j v hj=>by rw[Addr.add_lit,abA];exact hcs (i*2+j) v (by rwa [abG]at hj))
   (fun j hj=>by rw[abA];exact hsp _ (by rw[hdl]at hj;omega)) (fun j hj=>by rw[abA];exact hfz _ (by rw[hdl]at hj;omega)) (fun v hv=>h1c v (ace hv))
  rwa [hm]at this
 obtain⟨W1,hW1⟩:∃W1,W1=w.drew.setCells b (off+(i+1)*2) (cs.drop (i*2)):=⟨_,rfl⟩;have hsp1:∀k,k<(n+1)*2->(W1.cell? ⟨b,off+k,none⟩).isSome=true:=fun k hk=>by rw[hW1];exact isSome_setCells b _ _ _ (fun j hj=>by rw[abA];exact hsp _ (by rw[hdl]at hj;omega)) _ (hsp k hk)
 have hcp2:∀(W:World),(∀x,W.cell? x=W1.cell? x)->(∀x,W.frozen? x=W1.frozen? x)->∀ty dc,(Builtin.copy_ #[82,82] ty #[.slice (some ⟨b,off+i*2,none⟩) (n+1-i) dc,.slice (some ⟨vb,voff,none⟩) 1 vc]).run Tryz.prog W= .ok (goInt 1) (W.setCells b (off+i*2) vs):=fun W hWc hWf ty dc=>by
  have hm:Nat.min 1 (n+1-i)=1:=by simp only[adt];split<;>omega
  have:=j9 (P:=Tryz.prog) W 82 82 ty 112 b (off+i*2) (n+1-i) dc ⟨vb,voff,none⟩ 1 vc vs Tryz.underlying82 hsz (by rw[hm,hvl])
   (fun j v hj=>by
    rw[Addr.add_lit,hWc,hW1,World.cell?_setCells_out b _ _ _ _ (fun h _=>absurd h hvb)]
    exact hvs j v hj)
   (fun j hj=>by rw[hWc,abA];exact hsp1 _ om) (fun j hj=>by rw[hWf,hW1,World.frozen?_setCells,abA];exact hfz _ om) h1v
  rwa [hm]at this
 subst hW1
 go_enter Tryz.func147,Tryz.ntmps147
 go_wp2_with (simp only[hov])
 have mixed:Tryz.prog.follows .mixedOrders=true:=by kernel_rfl
 go_region_law_o (refine step_copy_runI rfl _ _ 82 82 rfl _ _ (by simp[Act.eval,Act.put]) (by simp[Act.eval,Act.put]) (hcp1 _ _ _) ?_)
 go_wp2_with (at_builtin;refine wpList_copy_runI _ rfl _ _ 82 82 rfl _ _ rfl rfl (hcp2 _ (fun _=>rfl) (fun _=>rfl) _ _) ?_)
 go_ret
 exact⟨rfl,rfl⟩
def um:Value:= .agg #[.string ⟨#[]⟩,.int .i64 0]
open Go.Shelf Go.Lib in
theorem Ch(b off n c i vb voff vc:Nat)(cs vs:List Value)(w:World)(hi:i<n)(hnc:n<=c)(hroom:c<n+1)(hbig:(n+1)*24<=140737488355328)(hcl:cs.length=n*2)(hvl:vs.length=2)(hcs:∀j v,cs[j]? =some v->w.cell? ⟨b,off+j,none⟩=some v)(hvs:∀j v,vs[j]? =some v->w.cell? ⟨vb,voff+j,none⟩=some v)(h1c:∀v∈cs,v.oneCell'=true)(h1v:∀v∈vs,v.oneCell'=true):
  Calls Tryz.prog 147 #[.slice (some ⟨b,off,none⟩) n c,.int .i64 i,.slice (some ⟨vb,voff,none⟩) 1 vc] w fun e w'=>
   e= .returned (.slice (some ⟨w.heap.size,0,none⟩) (n+1) (grownCap w (n+1) c 112))/\
   w'=(((w.alloc (.cells ((cs.take (i*2)).toArray++Builtin.zeroCells um.cells (n+1-i)++Builtin.zeroCells um.cells (grownCap w (n+1) c 112-(n+1))) 112)).drew.setCells w.heap.size (i*2) vs).drew).setCells w.heap.size ((i+1)*2) (cs.drop (i*2)):=by
 obtain⟨i0,hi0,hz0,hzs,hzb⟩:∃i0,Tryz.prog.info? 112=some i0/\i0.zero=some um/\i0.size=2/\i0.bytes=24:=by
  have h9:(Tryz.prog.info? 112).map (fun i=>(i.zero,i.size,i.bytes))=some (some um,2,24):=by kernel_rfl
  cases hi0:Tryz.prog.info? 112 with
  |none=>rw[hi0]at h9;cases h9
  |some i0=>
   rw[hi0]at h9;simp only[aaG,aag,Prod.mk.injEq]at h9;exact⟨i0,rfl,h9.1,h9.2.1,h9.2.2⟩
 have hz2:¬((i:Int)=(n:Int)):=om;have hz3:(c:Int)<(n:Int)+1:=om;have hsz:(Tryz.prog.info? 112).map (·.size)=some 2:=by rw[hi0];simp[hzs]
 have hbw:b<w.heap.size:=block_lt_of_cell (hcs 0 _ (IE om));have hvw:vb<w.heap.size:=block_lt_of_cell (hvs 0 _ (IE om));have hwn:IntKind.i64.wrap ((n:Int)+1)=(n:Int)+1:=by rw[IntKind.wrap_i64];omega
 have hwm:IntKind.i64.wrap ((n:Int)+1-(i:Int))=(n:Int)+1-(i:Int):=by rw[IntKind.wrap_i64];omega
 have hkk:(n:Int)+1-(i:Int)=((n+1-i:Nat):Int):=om;have hik:i+(n+1-i)=n+1:=om;have hold:(Builtin.firstCells i0.size i (.slice (some ⟨b,off,none⟩) i c)).run Tryz.prog w.drew= .ok (cs.take (i*2)).toArray w.drew:=by
  rw[hzs];exact run_firstCells_some w.drew 2 i ⟨b,off,none⟩ i c (cs.take (i*2)) (by rw[Z4];omega) (fun j v hj=>by
   rw[Addr.add_lit];rw[abm]at hj;split at hj
   .exact hcs j v hj
   .cases hj)
 have hrz:∀ty,(Builtin.append_ #[82,3] ty #[.slice (some ⟨b,off,none⟩) i c,.int .i64 ((n:Int)+1-(i:Int))]).run Tryz.prog w=
   .ok (.slice (some ⟨w.heap.size,0,none⟩) (n+1) (grownCap w (n+1) c 112)) (w.drew.alloc (.cells ((cs.take (i*2)).toArray++Builtin.zeroCells um.cells (n+1-i)++Builtin.zeroCells um.cells (grownCap w (n+1) c 112-(n+1))) 112)):=fun ty=>by
  have h:=Lib.run_append_grow_zeros (P:=Tryz.prog) w 82 3 ty 112 i0 _ .i64 .i64 Tryz.underlying82 Tryz.underlying3 hi0 hz0 (some ⟨b,off,none⟩) i c (cs.take (i*2)) hold (n+1-i) om om om om (by rw[hzb];omega) (by rw[hzb,hik];exact growslice_fits hroom hbig)
  rw[hik]at h;rw[hkk];exact h
 obtain⟨G,hG⟩:∃G,G=grownCap w (n+1) c 112:=⟨_,rfl⟩;obtain⟨ROW,hROW⟩:∃ROW:Array Value,ROW=(cs.take (i*2)).toArray++Builtin.zeroCells um.cells (n+1-i)++Builtin.zeroCells um.cells (G-(n+1)):=⟨_,rfl⟩;rw[<-hG]at hrz⊢;rw[<-hROW]at hrz⊢;have hRl:(n+1)*2<=ROW.size:=by rw[hROW];simp[Builtin.zeroCells,Value.cells,um];omega
 obtain⟨W1,hW1⟩:∃W1,W1=w.drew.alloc (.cells ROW 112):=⟨_,rfl⟩;rw[<-hW1]at hrz;have hN:∀j,j<(n+1)*2->(W1.cell? ⟨w.heap.size,j,none⟩).isSome=true:=fun j hj=>by rw[hW1,World.cell?_alloc_at (w:=w.drew) ROW _ w.heap.size j rfl,abR om];rfl
 have hNf:∀j,W1.frozen? ⟨w.heap.size,j,none⟩=false:=fun j=>by rw[hW1];exact World.frozen?_alloc_at (w:=w.drew) ROW _ w.heap.size j rfl
 have hOb:∀j v,w.cell? ⟨b,j,none⟩=some v->W1.cell? ⟨b,j,none⟩=some v:=fun j v h=>by rw[hW1,World.cell?_alloc_past (w:=w.drew) _ b j hbw];exact h
 have hOv:∀j v,w.cell? ⟨vb,j,none⟩=some v->W1.cell? ⟨vb,j,none⟩=some v:=fun j v h=>by rw[hW1,World.cell?_alloc_past (w:=w.drew) _ vb j hvw];exact h
 have hcpA:∀(W:World),(∀x,W.cell? x=W1.cell? x)->(∀x,W.frozen? x=W1.frozen? x)->∀ty dc,(Builtin.copy_ #[82,82] ty #[.slice (some ⟨w.heap.size,i*2,none⟩) (n+1-i) dc,.slice (some ⟨vb,voff,none⟩) 1 vc]).run Tryz.prog W= .ok (goInt 1) (W.setCells w.heap.size (i*2) vs):=fun W hWc hWf ty dc=>by
  have hm:Nat.min 1 (n+1-i)=1:=by simp only[adt];split<;>omega
  have:=j9 (P:=Tryz.prog) W 82 82 ty 112 w.heap.size (i*2) (n+1-i) dc ⟨vb,voff,none⟩ 1 vc vs Tryz.underlying82 hsz (by rw[hm,hvl])
   (fun j v hj=>by rw[Addr.add_lit,hWc];exact hOv _ v (hvs j v hj))
   (fun j hj=>by rw[hWc];exact hN _ om) (fun j hj=>by rw[hWf];exact hNf _) h1v
  rwa [hm]at this
 have hGn:n+1<=G:=by rw[hG];exact grownCap_ge w _ _ _
 have hG63:G<=9223372036854775807:=by
  have:=grownCap_le_maxLen w (n+1) c 112 (by unfold maxLen;omega)
  rw[<-hG]at this;unfold maxLen at this;omega
 have hGi:¬(G=i):=om;have hGim:¬(G=i+1):=om;have hci:¬(c=i):=om;have hbN:b≠w.heap.size:=om;have hdl:(cs.drop (i*2)).length=(n-i)*2:=by rw[abK,hcl,ads]
 have hcpB:∀(W:World),(∀x,W.cell? x=(W1.setCells w.heap.size (i*2) vs).cell? x)->(∀x,W.frozen? x=(W1.setCells w.heap.size (i*2) vs).frozen? x)->∀ty dc sc,(Builtin.copy_ #[82,82] ty #[.slice (some ⟨w.heap.size,(i+1)*2,none⟩) (n-i) dc,.slice (some ⟨b,off+i*2,none⟩) (n-i) sc]).run Tryz.prog W= .ok (goInt ((n-i:Nat):Int)) (W.setCells w.heap.size ((i+1)*2) (cs.drop (i*2))):=fun W hWc hWf ty dc sc=>by
  have hm:Nat.min (n-i) (n-i)=n-i:=by simp[adt]
  have:=j9 (P:=Tryz.prog) W 82 82 ty 112 w.heap.size ((i+1)*2) (n-i) dc ⟨b,off+i*2,none⟩ (n-i) sc (cs.drop (i*2)) Tryz.underlying82 hsz (by rw[hm,hdl])
   (fun j v hj=>by
    rw[Addr.add_lit,hWc,World.cell?_setCells_out _ _ _ _ _ (fun h _=>absurd h hbN),abA]
    exact hOb _ v (hcs (i*2+j) v (by rwa [abG]at hj)))
   (fun j hj=>by rw[hWc];exact isSome_setCells _ _ _ _ (fun t ht=>hN _ om) _ (hN _ om))
   (fun j hj=>by rw[hWf,World.frozen?_setCells];exact hNf _) (fun v hv=>h1c v (ace hv))
  rwa [hm]at this
 subst hW1;have hE1:∀x,((w.alloc (.cells ROW 112)).drew).cell? x=(w.drew.alloc (.cells ROW 112)).cell? x:=fun x=>rfl
 have hE2:∀x,((w.alloc (.cells ROW 112)).drew).frozen? x=(w.drew.alloc (.cells ROW 112)).frozen? x:=fun x=>rfl
 have hF1:∀x,(((w.alloc (.cells ROW 112)).drew.setCells w.heap.size (i*2) vs).drew).cell? x=((w.drew.alloc (.cells ROW 112)).setCells w.heap.size (i*2) vs).cell? x:=fun x=>rfl
 have hF2:∀x,(((w.alloc (.cells ROW 112)).drew.setCells w.heap.size (i*2) vs).drew).frozen? x=((w.drew.alloc (.cells ROW 112)).setCells w.heap.size (i*2) vs).frozen? x:=fun x=>rfl
 have hw1:IntKind.i64.wrap ((i:Int)+1)=(i:Int)+1:=by rw[IntKind.wrap_i64];omega
 have hb1:(0:Int)<=(i:Int)+1:=om;have hin:i<=n:=om;have htn:((i:Int)+1).toNat=i+1:=om;have hb3:(i:Int)<=(n:Int):=om;have hnn:n+1-(i+1)=n-i:=om;clear hkk hik hold hROW hG hRl;have mixed:Tryz.prog.follows .mixedOrders=true:=by kernel_rfl
 go_enter Tryz.func147,Tryz.ntmps147
 go_wp2_with (first
  |(at_builtin;refine Lib.wpList_append_run _ rfl _ _ _ _ rfl _ _ rfl rfl _ _ (hrz _) ?_)
  |(at_builtin;refine wpList_copy_runI _ rfl _ _ 82 82 rfl _ _ rfl rfl (hcpA _ hE1 hE2 _ _) ?_)
  |(at_builtin;refine wpList_copy_runI _ rfl _ _ 82 82 rfl _ _ rfl rfl (hcpB _ (fun _=>rfl) (fun _=>rfl) _ _ _) ?_))
 go_region_law_o (refine step_copy_runI rfl _ _ 82 82 rfl (.slice (some ⟨w.heap.size,(i+1)*2,none⟩) (n-i) (G-(i+1))) (.slice (some ⟨b,off+i*2,none⟩) (n-i) (c-i)) (by simp[Act.eval,Act.put]) (by simp[Act.eval,Act.put]) (hcpB _ hF1 hF2 3 (G-(i+1)) (c-i)) ?_)
 go_wp2
 go_ret
 exact⟨rfl,rfl⟩
end Go.Proofs.YtojhmadmlnfpcaaGreatDoor
namespace Go.Proofs.YtojhmadmlnfpcaaGreatDoor
open Go.AM Go.ChangeShapes Go.WideShapes Go.ChangeAt Go.RowKit
theorem iy{mk:Prop}{b:Nat}:∀(vs:List Value)(o:Nat)(w:World)(cur:Array Value),lS mk w b cur->o+vs.length<=cur.size->
  ∃gq,lS mk (w.setCells b o vs) b gq/\kI w (w.setCells b o vs) b/\gq.size=cur.size/\∀k,gq[k]? =if o<=k/\k<o+vs.length then vs[k-o]? else cur[k]?
 | [],o,w,cur,hc,_=>⟨cur,hc,⟨fun _ _=>rfl,rfl,rfl,rfl,rfl⟩,rfl,fun k=>by rw[if_neg aG]⟩
 |v::r,o,w,cur,hc,hle=>by
  have Dv:lS mk (w.setCell ⟨b,o,none⟩ v) b (cur.setIfInBounds o v):=by
   obtain⟨ty,fr,hb,hf⟩:=hc;refine⟨ty,fr,?_,by simpa using hf⟩
   simp[World.setCell,abN,hb]
  have y9:kI w (w.setCell ⟨b,o,none⟩ v) b:=⟨fun b hb=>by simp[World.setCell,abN,Ne.symm hb],aG,rfl,rfl,rfl⟩
  simp only[aar]at hle;obtain⟨gq,h1,ht,h2,h3⟩:=iy (mk:=mk) r (o+1) _ _ Dv (by simp;omega)
  refine⟨gq,h1,⟨fun b hb=>(ht.heap b hb).trans (y9.heap b hb),ht.size.trans y9.size,ht.os,ht.tape,ht.output⟩,by rw[h2];simp,fun k=>?_⟩
  rw[h3 k];simp only[aar];by_cases hk:k=o
  .subst hk;rw[if_neg om,if_pos om,acg om];simp
  .by_cases pd:o+1<=k/\k<o+1+r.length
   .rw[if_pos pd,if_pos om];obtain⟨j,rfl⟩:∃j,k=o+1+j:=⟨k-(o+1),om⟩;rw[show o+1+j-(o+1)=j by omega,show o+1+j-o=j+1 by omega,abY]
   .rw[if_neg pd,if_neg om,acr om]
theorem ER{S:List (List Dt)}{i:Nat}{cs:List CC}(h:(af S)[i]? =some cs):∃ds,S[i]? =some ds/\cs=ds.map .aa:=by simp only[af,Q8]at h;obtain⟨ds,h1,h2⟩:=aaI.1 h;exact⟨ds,h1,h2.symm⟩
theorem GV{S:List (List Dt)}{e:List Dt}{i:Nat}(hi:i<S.length)(k:Nat)(ds:List Dt)(h:(S.take i++e::S.drop i)[k]? =some ds):(k<i/\S[k]? =some ds)\/(k=i/\ds=e)\/(i<k/\S[k-1]? =some ds):=by
 have hl:(S.take i).length=i:=by rw[Z4];omega
 rcases acN k i with h1|h1|h1
 .rw[ZY om,abm,if_pos h1]at h;exact .inl ⟨h1,h⟩
 .subst h1;rw[ZW om,hl,acH]at h;exact .inr (.inl ⟨rfl,by simpa using h.symm⟩)
 .rw[ZW om,hl,show k-i=(k-1-i)+1 by omega,abY,abG,show i+(k-1-i)=k-1 by omega]at h
  exact .inr (.inr ⟨h1,h⟩)
theorem IQ(S:List (List Dt))(e:List Dt)(i:Nat)(hi:i<S.length)(hl:S.length<=4194304):au Tryz.prog 147 [.rv (.one (.row 0 2 0 none)),an .i64 (i:Nat),.rv (.one (.row 1 2 0 none))] [.row 2 (af S),.row 2 (af [e])]
  (fun r m=>r= .rv (.one (.row 2 2 0 none))/\m=[.aW,.aW,.row 2 (af (S.take i++e::S.drop i))]):=by
 refine⟨⟨Tryz.f147,Tryz.func147,rfl,by decide⟩,fun ρ w vs hM uB hd=>?_⟩
 obtain⟨v0,h0,d0⟩:=hd 0 _ rfl;obtain⟨v1,h1,d1⟩:=hd 1 _ rfl;obtain⟨v2,h2,d2⟩:=hd 2 _ rfl;have C7:vs=[v0,v1,v2]:=by
  match vs,uB with
  | [a,b,c],_=>simp at h0 h1 h2;rw[h0,h1,h2]
 have DI:v1= .int .i64 (i:Nat):=(bS d1).1;obtain⟨_,_,_,aeN,SV,a0,T7,Uh⟩:=(show bC ρ w none (.row 0 2 0 none) v0 from d0);obtain⟨_,_,_,Vt,Ok,a1,zg,X6⟩:=(show bC ρ w none (.row 1 2 0 none) v2 from d2);obtain⟨Z6,_,_,Z7,Z8⟩:=hM.bk 0 _ rfl;obtain⟨Z9,_,_,Vl,aaa⟩:=hM.bk 1 _ rfl;have Wm:(ρ.aV (.ar 0)).len=S.length:=by rw[<-Z6];simp[af]
 have Wn:(ρ.aV (.ar 1)).len=1:=by rw[<-Z9];simp[af]
 have Mx:0<(ρ.aV (.ar 0)).cap:=om;have Gb:0<(ρ.aV (.ar 1)).cap:=om;obtain⟨My,yD,BB,Pj⟩:=Z8 Mx;obtain⟨Mz,MA,Vv,Pk⟩:=aaa Gb;have Uh:=Uh Mx;have X6:=X6 Gb;have MB:Live ρ [.row 2 (af S),.row 2 (af [e])] (.ar 0):=⟨_,rfl,aG,fun _=>Mx⟩
 have Wo:Live ρ [.row 2 (af S),.row 2 (af [e])] (.ar 1):=⟨_,rfl,aG,fun _=>Gb⟩
 have X3:(ρ.aV (.ar 1)).b≠(ρ.aV (.ar 0)).b:=fun he=>by have:=hM.inj _ _ Wo MB he;cases this
 simp only[acy,aci,Nat.zero_mul,acI]at T7 zg Uh X6;have Wp:ρ.n=2:=hM.n;have X7:=hM;generalize Sc:ρ.aV (.ar 0)=L0 at*
 generalize hL1:ρ.aV (.ar 1)=L1 at*
 obtain⟨b,aA,len,cap⟩:=L0;obtain⟨vb,yE,aeO,SX⟩:=L1;simp only at*
 subst Wm Wn;have SY:=yD.lt;have Ui:∀(k:Nat)(ds:List Dt),S[k]? =some ds->ds.length=2:=fun k ds hk=>by
  have:=Z7 (ds.map .aa) (Rq (i:=k) (by simp[af,hk]))
  simpa using this
 have oT:e.length=2:=by
  have:=Vl (e.map .aa) (by simp[af])
  simpa using this
 obtain⟨cs,Wq⟩:∃cs,cs=(My.toList.drop aA).take (S.length*2):=⟨_,rfl⟩;have fU:cs.length=S.length*2:=by have:=ab9 (xs:=My);rw[Wq,Z4,abK];omega
 have T8:∀j,j<S.length*2->cs[j]? =My[aA+j]? :=fun j hj=>by rw[Wq,abm,if_pos hj,abG,acb]
 obtain⟨vv,Wr⟩:∃vv,vv=(Mz.toList.drop yE).take 2:=⟨_,rfl⟩;have Ai:vv.length=2:=by have:=ab9 (xs:=Mz);rw[Wr,Z4,abK];omega
 have hvg:∀j,j<2->vv[j]? =Mz[yE+j]? :=fun j hj=>by rw[Wr,abm,if_pos hj,abG,acb]
 have MC:∀(k:Nat)(ds:List Dt)(j:Nat)(d:Dt),S[k]? =some ds->ds[j]? =some d->∃u,cs[k*2+j]? =some u/\dv ρ.S w d u:=fun k ds j d hk hj=>by
  have fj:=(Mh.1 hk).1;have km:=(Mh.1 hj).1;rw[Ui k ds hk]at km;obtain⟨u,hu,cz⟩:=Pj k (ds.map .aa) j (.aa d) (by simp[af,hk]) (by simp[hj])
  exact⟨u,by rw[T8 _ om,<-abA];exact hu,cz⟩
 have Q9:∀(j:Nat)(d:Dt),e[j]? =some d->∃u,vv[j]? =some u/\dv ρ.S w d u:=fun j d hj=>by
  have km:=(Mh.1 hj).1;rw[oT]at km;obtain⟨u,hu,cz⟩:=Pk 0 (e.map .aa) j (.aa d) (by simp[af]) (by simp[hj])
  exact⟨u,by rw[hvg _ km];simpa using hu,cz⟩
 have Ra:∀v∈cs,v.oneCell'=true:=fun v hv=>by
  obtain⟨j,hj⟩:=Xf hv;have km:=(Mh.1 hj).1;have hk:j/2<S.length:=om;have C5:=Ui (j/2) S[j/2] (IE hk);obtain⟨u,hu,cz⟩:=MC (j/2) S[j/2] (j%2) (S[j/2][j%2]'(by omega)) (IE hk) (IE _)
  rw[show j/2*2+j%2=j by omega,hj]at hu
  cases hu;exact cz.one
 have Rb:∀v∈vv,v.oneCell'=true:=fun v hv=>by
  obtain⟨j,hj⟩:=Xf hv;have km:=(Mh.1 hj).1;obtain⟨u,hu,cz⟩:=Q9 j (e[j]'(by omega)) (IE _)
  rw[hj]at hu;cases hu;exact cz.one
 have zx:∀(j:Nat)(v:Value),cs[j]? =some v->w.cell? ⟨b,aA+j,none⟩=some v:=fun j v hj=>by
  rw[yD.cell,<-T8 j (by rw[<-fU];exact(Mh.1 hj).1)];exact hj
 have zy:∀(j:Nat)(v:Value),vv[j]? =some v->w.cell? ⟨vb,yE+j,none⟩=some v:=fun j v hj=>by
  rw[MA.cell,<-hvg j (by rw[<-Ai];exact(Mh.1 hj).1)];exact hj
 have e7:vs.toArray= #[.slice (some ⟨b,aA,none⟩) S.length cap,.int .i64 (i:Nat),.slice (some ⟨vb,yE,none⟩) 1 SX]:=by rw[C7,T7,DI,zg,Uh,X6]
 rw[e7];have Ci:∀(w':World)(l:AM.wW)(gq:Array Value),iD ρ w (ρ.move l fun _ _=>.sub 0 0 0) w'->(∀k,k<i*2->gq[l.aA+k]? =cs[k]?)->(∀k,k<2->gq[l.aA+(i*2+k)]? =vv[k]?)->(∀k,k<(S.length-i)*2->gq[l.aA+((i+1)*2+k)]? =cs[i*2+k]?)->
   ∀(k:Nat)De(j:Nat)c,(af (S.take i++e::S.drop i))[k]? =some De->De[j]? =some c->∃u,gq[l.aA+k*2+j]? =some u/\bC (ρ.move l fun _ _=>.sub 0 0 0) w' (some (ρ.n,k,j)) c u:=by
  intro w' l gq g q1 q2 q3 k De j c hk hj;obtain⟨ds,Kw,rfl⟩:=ER hk;rw[Q8]at hj;obtain⟨d,xh,rfl⟩:=aaI.1 hj;have km:=(Mh.1 xh).1;rcases GV hi k ds Kw with⟨Db,hS⟩|⟨rfl,rfl⟩|⟨Db,hS⟩
  .rw[Ui k ds hS]at km;obtain⟨u,hu,cz⟩:=MC k ds j d hS xh;exact⟨u,by rw[abA,q1 _ om];exact hu,cz.mono g.S g.heap⟩
  .rw[oT]at km;obtain⟨u,hu,cz⟩:=Q9 j d xh;exact⟨u,by rw[abA,q2 _ km];exact hu,cz.mono g.S g.heap⟩
  .rw[Ui _ ds hS]at km;obtain⟨u,hu,cz⟩:=MC (k-1) ds j d hS xh;have fj:=(Mh.1 hS).1;refine⟨u,?_,cz.mono g.S g.heap⟩;rw[abA,show k*2+j=(i+1)*2+((k-1-i)*2+j) by omega,q3 _ om,show i*2+((k-1-i)*2+j)=(k-1)*2+j by omega]
   exact hu
 have Gv:(af (S.take i++e::S.drop i)).length=S.length+1:=by simp[af];omega
 have C8:∀cs,cs∈af (S.take i++e::S.drop i)->cs.length=2:=fun De hm=>by
  obtain⟨k,hk⟩:=Xf hm;obtain⟨ds,Kw,rfl⟩:=ER hk;rw[Nq];rcases GV hi k ds Kw with⟨_,hS⟩|⟨_,rfl⟩|⟨_,hS⟩
  .exact Ui _ _ hS
  .exact oT
  .exact Ui _ _ hS
 have iK:∀(k:Nat)De(j:Nat)s el,(af (S.take i++e::S.drop i))[k]? =some De->De[j]? =some (.gO s el)->False:=fun k De j s el hk hj=>by obtain⟨ds,_,rfl⟩:=ER hk;rw[Q8]at hj;obtain⟨d,_,h⟩:=aaI.1 hj;cases h
 have oY:([.aW,.aW]:Mem).length=([.row 2 (af S),.row 2 (af [e])]:Mem).length:=rfl;have mE:∀(id:Nat)bk,([.aW,.aW]:Mem)[id]? =some bk->bk= .aW\/(([.row 2 (af S),.row 2 (af [e])]:Mem)[id]? =some bk/\¬(id=0\/id=1)):=fun id bk h=>by
  match id,h with
  |0,h=>cases h;exact .inl rfl
  |1,h=>cases h;exact .inl rfl
  |id+2,h=>simp at h
 have Cj:∀k,(cs.drop (i*2))[k]? =cs[i*2+k]? :=fun k=>by rw[abG]
 have lH:(cs.drop (i*2)).length=(S.length-i)*2:=by rw[abK,fU,ads]
 by_cases nn:S.length+1<=cap
 ·
  obtain⟨ty0,fr0,hh0,aeR,aeS,aeT⟩:=id yD;obtain⟨ty1,fr1,hh1,aeW,aeX,Ws⟩:=id MA;have Ws:fr1.2<=Mz.size:=by
   rcases Ws with h|h
   .cases h
   .exact h
  have zw:∀j,j<(S.length+1)*2->(w.cell? ⟨b,aA+j,none⟩).isSome=true:=fun j hj=>by rw[yD.cell,abR om];rfl
  have xx:=Ah b aA S.length cap i vb yE SX cs vv w hi nn (by unfold maxLen at SV;omega) X3 fU Ai zx zw (fun j hj=>yD.pG om) zy Ra Rb ty1 ty0 Mz.size My.size
   (by simp[World.shape?,hh1]) (by simp[World.shape?,hh0]) om (MA.pG om) (by simp only[World.frozen?,hh1];simp;omega)
  refine xx.mono ?_;rintro e' w' ⟨rfl,rfl⟩;obtain⟨c1,Dv,y9,XZ,jI⟩:=iy (cs.drop (i*2)) (aA+(i+1)*2) w.drew My (yD.dn rfl) (by rw[lH];omega)
  obtain⟨c2,vd,u7,QB,pd⟩:=iy vv (aA+i*2) _ c1 Dv (by rw[Ai];omega)
  have hT:kI w ((w.drew.setCells b (aA+(i+1)*2) (cs.drop (i*2))).setCells b (aA+i*2) vv) b:=
   ⟨fun x hx=>((u7.heap x hx).trans (y9.heap x hx)).trans rfl,(u7.size.trans y9.size).trans rfl,(u7.os.trans y9.os).trans rfl,(u7.tape.trans y9.tape).trans rfl,(u7.output.trans y9.output).trans rfl⟩
  obtain⟨lU,hX⟩:=hM.move (w':=(w.drew.setCells b (aA+(i+1)*2) (cs.drop (i*2))).setCells b (aA+i*2) vv) (m1:=[.aW,.aW]) (D:=fun id=>id=0\/id=1) (esz:=2) (E:=af (S.take i++e::S.drop i)) (l:=⟨b,aA,S.length+1,cap⟩) (src:=fun _ _=>.sub 0 0 0)
   oY mE (by rw[hT.size];exact SS _) hT.os hT.tape hT.output (fun x hx fc=>hT.heap x (fun he=>fc 0 (.inl rfl) MB (by rw[Sc];exact he.symm)))
   (fun _=>⟨by rw[hT.size];exact SY,.inr ⟨0,.inl rfl,MB,by rw[Sc]⟩⟩) Gv nn SV C8
   (fun g _=>⟨c2,vd,by rw[QB,XZ];exact BB,Ci _ ⟨b,aA,S.length+1,cap⟩ c2 g (fun k hk=>by
    show c2[aA+k]? =_;rw[pd,if_neg (by rw[Ai];omega),jI,if_neg om,T8 _ om]) (fun k hk=>by
    show c2[aA+(i*2+k)]? =_;rw[pd,if_pos (by rw[Ai];omega),show aA+(i*2+k)-(aA+i*2)=k by omega]) (fun k hk=>by
    show c2[aA+((i+1)*2+k)]? =_;rw[pd,if_neg (by rw[Ai];omega),jI,if_pos (by rw[lH];omega),show aA+((i+1)*2+k)-(aA+(i+1)*2)=k by omega,Cj])⟩)
   (fun k De j s el hk hj=>(iK k De j s el hk hj).elim) (fun _ _ _ _ _⟨De,s,el,hk,hj⟩ _=>(iK _ De _ s el hk hj).elim)
  refine⟨_,_,_,_,rfl,⟨rfl,rfl⟩,lU,?_,hX⟩;refine⟨by simp[bQ.move,Wp],?_⟩
  have zh:(ρ.move ⟨b,aA,S.length+1,cap⟩ fun _ _=>.sub 0 0 0).aV (.ar 2)=⟨b,aA,S.length+1,cap⟩:=by simp[bQ.move,Wp]
  rw[zh];exact⟨Wi _,SS _,nn,SV,_,rfl,fun _=>aG⟩
 ·
  have xx:=Ch b aA S.length cap i vb yE SX cs vv w hi om om om fU Ai zx zy Ra Rb;refine xx.mono ?_;rintro e' w' ⟨rfl,rfl⟩;have Z5:S.length+1<=grownCap w (S.length+1) cap 112:=grownCap_ge w _ _ _;have hGm:grownCap w (S.length+1) cap 112<=maxLen:=grownCap_le_maxLen w (S.length+1) cap 112 (by unfold maxLen;omega)
  generalize grownCap w (S.length+1) cap 112=G at*
  obtain⟨ROW,EQ⟩:∃ROW:Array Value,ROW=(cs.take (i*2)).toArray++Builtin.zeroCells um.cells (S.length+1-i)++Builtin.zeroCells um.cells (G-(S.length+1)):=⟨_,rfl⟩;rw[<-EQ];have hRs:ROW.size=G*2:=by rw[EQ];simp[Builtin.zeroCells,Value.cells,um,Z4,fU];omega
  have hRg:∀k,k<i*2->ROW[k]? =cs[k]? :=fun k hk=>by
   rw[EQ,Array.append_assoc,acn (by simp[fU];omega)]
   simp[abm,hk]
  have hA:eD w (w.alloc (.cells ROW 112)).drew:=(eD.alloc w _).trans (eD.drew _);obtain⟨c1,Dv,y9,XZ,jI⟩:=iy (mk:=(2:Nat)=1) vv (i*2) (w.alloc (.cells ROW 112)).drew ROW ((lS.new w ROW 112).dn rfl) (by rw[Ai];omega)
  obtain⟨c2,vd,u7,QB,pd⟩:=iy (mk:=(2:Nat)=1) (cs.drop (i*2)) ((i+1)*2) ((w.alloc (.cells ROW 112)).drew.setCells w.heap.size (i*2) vv).drew c1 (Dv.dn rfl) (by rw[lH];omega)
  have dN:w.heap.size<((((w.alloc (.cells ROW 112)).drew.setCells w.heap.size (i*2) vv).drew).setCells w.heap.size ((i+1)*2) (cs.drop (i*2))).heap.size:=by rw[u7.size];show w.heap.size<((w.alloc (.cells ROW 112)).drew.setCells w.heap.size (i*2) vv).heap.size;rw[y9.size];show w.heap.size<(w.alloc (.cells ROW 112)).heap.size;simp
  obtain⟨lU,hX⟩:=hM.move (w':=(((w.alloc (.cells ROW 112)).drew.setCells w.heap.size (i*2) vv).drew).setCells w.heap.size ((i+1)*2) (cs.drop (i*2))) (m1:=[.aW,.aW]) (D:=fun id=>id=0\/id=1) (esz:=2) (E:=af (S.take i++e::S.drop i)) (l:=⟨w.heap.size,0,S.length+1,G⟩) (src:=fun _ _=>.sub 0 0 0)
   oY mE (Nat.le_of_lt dN) ((u7.os.trans y9.os).trans rfl) ((u7.tape.trans y9.tape).trans rfl) ((u7.output.trans y9.output).trans rfl)
   (fun x hx _=>((u7.heap x om).trans (y9.heap x om)).trans (hA.heap x hx))
   (fun _=>⟨dN,.inl (SS _)⟩) Gv Z5 hGm C8
   (fun g _=>⟨c2,vd,by rw[QB,XZ,hRs];show 0+G*2<=G*2;omega,Ci _ ⟨w.heap.size,0,S.length+1,G⟩ c2 g (fun k hk=>by
    show c2[0+k]? =_;rw[abx,pd,if_neg om,jI,if_neg om,hRg _ hk]) (fun k hk=>by
    show c2[0+(i*2+k)]? =_;rw[abx,pd,if_neg om,jI,if_pos (by rw[Ai];omega),show i*2+k-i*2=k by omega]) (fun k hk=>by
    show c2[0+((i+1)*2+k)]? =_;rw[abx,pd,if_pos (by rw[lH];omega),show(i+1)*2+k-(i+1)*2=k by omega,Cj])⟩)
   (fun k De j s el hk hj=>(iK k De j s el hk hj).elim) (fun _ _ _ _ _⟨De,s,el,hk,hj⟩ _=>(iK _ De _ s el hk hj).elim)
  refine⟨_,_,_,_,rfl,⟨rfl,rfl⟩,lU,?_,hX⟩;refine⟨by simp[bQ.move,Wp],?_⟩
  have zh:(ρ.move ⟨w.heap.size,0,S.length+1,G⟩ fun _ _=>.sub 0 0 0).aV (.ar 2)=⟨w.heap.size,0,S.length+1,G⟩:=by simp[bQ.move,Wp]
  rw[zh];exact⟨Wi _,SS _,Z5,hGm,_,rfl,fun _=>aG⟩
def Obj.ob(o:Obj):Ob:=⟨o.ah,o.data,o.ak,o.target,o.aD,.sl 4 (o.aj.map bw.enc),o.aM,o.am,o.up⟩
theorem SZ(l:List Obj):cU l=ON (l.map Obj.ob):=by show Dt.sl 9 (l.map Obj.enc)=Dt.sl 9 ((l.map Obj.ob).map Ob.enc);rw[abW];rfl
def jv(l:List Obj)(n p:Nat)(name:ByteArray):List Obj:=match l[n]? with
 |none=>l
 |some o=>match (l.set n {o with ak:=(iF (name,(p:Int)) (o.ak.map nq)).map eG})[p]? with
  |none=>l
  |some q=>(l.set n {o with ak:=(iF (name,(p:Int)) (o.ak.map nq)).map eG}).set p {q with am:=IntKind.i64.wrap (q.am+1),up:=if q.ah=2 then(n:Int)else q.up}
def yF(b:Bool)(o:Obj)(y:List Obj)(name:ByteArray):List Obj×Int:=
 if o.ah≠2 then([],11)else if o.am=0 then([],6)else if b=false then([],7)else if fE (o.ak.map nq) name>=0 then([],7)else if o.ak.length>=8 then([],15)else(y,0)
def ph(l:List Obj)(k ah:Int):Bool:=oc (l.map Obj.ob) k ah
def di(b:Bool)(l:List Obj)(cT:Int)(name:ByteArray)(bD:Int):List Obj×Int:=
 if ph l cT 0=true then(if ph l bD 0=true then(match l[cT.toNat]? with
  |none=>([],6)
  |some o=>yF b o (jv l cT.toNat bD.toNat name) name)else([],6))else([],6)
theorem wi{l:List Obj}{k:Int}(h:k<0):ph l k 0=false:=by
 unfold ph oc;rw[decide_eq_false (by omega:¬k>=0)];rfl
theorem wj{l:List Obj}{k:Int}(h:k>=(l.length:Int)):ph l k 0=false:=by
 unfold ph oc;rw[Nq,decide_eq_false (by omega:¬k<(l.length:Int))];simp
theorem wm{l:List Obj}{n:Nat}(hn:n<l.length)(h:l[n].ah=0):ph l n 0=false:=by unfold ph oc;rw[Z3,Q8,IE hn];have:l[n].ob.ah=0:=h;simp[this]
theorem wn{l:List Obj}{n:Nat}(hn:n<l.length)(h:l[n].ah≠0):ph l n 0=true:=by unfold ph oc;rw[Z3,Q8,IE hn,Nq];have:l[n].ob.ah≠0:=h;simp[this,hn]
theorem iz{l:List Obj}{k:Nat}(h:k<l.length):cR (l.map Obj.enc) (k:Nat)=some [.val (.int .i64 l[k].ah),.sl 1 l[k].data,.sl 2 l[k].ak,.val (.string l[k].target),.val (.int .i64 l[k].aD),.sl 4 (l[k].aj.map bw.enc),.val (.int .i64 l[k].aM),.val (.int .i64 l[k].am),.val (.int .i64 l[k].up)]:=by rw[bn,Q8,IE h];rfl
theorem Wt{σ:Nat->Nat}{m:Mem}{Z:Nat->Prop}{a a' b b':RV}(h1:wZ σ m Z a a')(h2:wZ σ m Z b b'):pW σ m Z (.bK [a,b]) (.bK [a',b']):=by
 refine .bK rfl fun i r r' h3 h4=>?_
 match i with
 |0=>cases h3;cases h4;exact h1
 |1=>cases h3;cases h4;exact h2
 |n+2=>simp at h3
theorem Wu{σ:Nat->Nat}{m:Mem}{Z:Nat->Prop}{a a' b b' c c':RV}(h1:wZ σ m Z a a')(h2:wZ σ m Z b b')(h0:wZ σ m Z c c'):pW σ m Z (.bK [a,b,c]) (.bK [a',b',c']):=by
 refine .bK rfl fun i r r' h3 h4=>?_
 match i with
 |0=>cases h3;cases h4;exact h1
 |1=>cases h3;cases h4;exact h2
 |2=>cases h3;cases h4;exact h0
 |n+3=>simp at h3
theorem o8{p Q:Nat}{l:List Obj}{k:Nat}{o:Obj}(hk:k<l.length):bb (bT p Q 0 l) k (j8 p Q k o)=bT p Q 0 (l.set k o):=by
 rw[bj];apply abF;intro i;rw[fM,abx];by_cases h:k=i
 .subst h;rw[Wl (by rw[fL];exact hk),Wl hk]
  rfl
 .rw[ZZ h,ZZ h,fM,abx]
theorem ES{p Q Q':Nat}{l:List Obj}{o:Obj}(hp:l[p]? =some o):bb (bT p Q 0 l) p (j8 p Q' p o)=bT p Q' 0 l:=by
 have fW:=(Mh.1 hp).1;rw[bj];apply abF;intro i;rw[fM,abx];by_cases h:p=i
 .subst h;rw[Wl (by rw[fL];exact fW),hp]
  rfl
 .rw[ZZ h,fM,abx];cases l[i]? with
  |none=>rfl
  |some x=>
   have h2:¬i=p:=fun e=>h e.symm
   simp only[aaG,j8,if_neg h2]
theorem GW{m:Mem}{Z:Nat->Prop}{pp:Option Nat}{id p Q:Nat}{l:List Obj}{o:Obj}{E:List (List Dt)}(hz:Z id)(hm:m[id]? =some (.row 9 (bT p Q 0 l)))(hzq:Z Q)(hq:m[Q]? =some (.row 2 (af E)))(hp:l[p]? =some o):
  dC m Z pp (.row id 9 0 none) (cU (l.set p {o with ak:=E})):=by
 have fW:=(Mh.1 hp).1;have key:∀(i:Nat)cs es,(bT p Q 0 l)[i]? =some cs->((l.set p {o with ak:=E}).map Obj.enc)[i]? =some es->jL m Z (some id) cs es:=by
  intro i cs es h1 h2;rw[fM,abx]at h1;rw[Q8]at h2;by_cases h:p=i
  .subst h;rw[Wl fW]at h2;rw[hp]at h1;cases h1;cases h2;simp only[j8,if_pos,Obj.enc];exact .cons (.aa _) (.cons (.aa _) (.cons (dC.dJ hzq hq 0 none) (.cons (.aa _) (.cons (.aa _) (.cons (.aa _) (.cons (.aa _) (.cons (.aa _) (.cons (.aa _) .nil))))))))
  .rw[ZZ h]at h2;cases hx:l[i]? with
   |none=>rw[hx]at h1;cases h1
   |some x=>
    rw[hx]at h1 h2;cases h1;cases h2;have h3:¬i=p:=fun e=>h e.symm
    simp only[j8,if_neg h3,Obj.enc];exact .cons (.aa _) (.cons (.aa _) (.cons (.aa _) (.cons (.aa _) (.cons (.aa _) (.cons (.aa _) (.cons (.aa _) (.cons (.aa _) (.cons (.aa _) .nil))))))))
 exact dC.row id 9 0 none _ _ hz hm (by rw[fL,Nq,aaJ]) (fun i cs es h1 h2=>(key i cs es h1 h2).len) (fun i cs es j c d h1 h2 h3 h4=>(key i cs es h1 h2).get j c d h3 h4)
theorem IS(S:List (List Dt))(e:List Dt)(i:Nat)(hi:i<=S.length)(hl:S.length<=4194304){m:Mem}{K:CV->Mem->Prop}(a b:Nat)(Dd:gu [a,b]=true)(aB:eO m.length [a,b]=true)(ha:dd m a=some (.row 2 (af S)))(hb:dd m b=some (.row 2 (af [e])))(h:K (.rv (.one (.row m.length 2 0 none))) (dp m [a,b] [.aW,.aW,.row 2 (af (S.take i++e::S.drop i))])):au Tryz.prog 147 [.rv (.one (.row a 2 0 none)),an .i64 (i:Nat),.rv (.one (.row b 2 0 none))] m K:=by
 by_cases nU:i<S.length
 .refine bu [a,b] m.length rfl rfl Dd aB (args0:=[.rv (.one (.row 0 2 0 none)),an .i64 (i:Nat),.rv (.one (.row 1 2 0 none))]) rfl (m0:=[.row 2 (af S),.row 2 (af [e])]) (fun i b' hi=>?_) (IQ S e i nU hl) (fun r1 m1 hr=>?_)
  .match i,hi with
   |0,hi=>cases hi;exact .inr ⟨fun h=>h,_,by rw[aZ]at ha;exact ha,.bM rfl⟩
   |1,hi=>cases hi;exact .inr ⟨fun h=>h,_,by rw[aZ]at hb;exact hb,.bM rfl⟩
   |n+2,hi=>simp at hi
  .obtain⟨rfl,rfl⟩:=hr;refine⟨aG,?_⟩;show K (.rv (.one (.row (m.length+(2-2)) 2 0 none))) (dp m [a,b] [.aW,.aW,.row 2 ((af (S.take i++e::S.drop i)).map (fun cs=>cs.map (CC.aO (sg [a,b] m.length))))])
   rw[gS];exact h
 .have:i=S.length:=om;subst this;refine SQ S e hl a b Dd aB ha hb ?_;rw[abp,List.drop_length]at h;exact h
structure wo(l:List Obj):Prop where
 mL:jW l
 en:∀o,o∈l->∃es:List NE,o.ak=es.map eG/\Ea es/\es.length<=4194304/\∀e,e∈es->0<=e.2/\e.2<(l.length:Int)
def MD(R:List Obj×Int)(r:CV)(m:Mem):Prop:=∃r' m',View 0 ⟨[r],m⟩ ⟨[r'],m'⟩/\r'= .bK [mB R.1,cS R.2]/\m'=[]
theorem fZ{R:List Obj×Int}{m:Mem}(e:Int)(h:R=([],e)):MD R (.bK [.one .aI,cS e]) m:=by subst h;refine⟨_,_,View.of m.length [] [] rfl rfl rfl rfl rfl rfl (.put (Wt (.one (.e8 (.aI 9))) (.one (.aO (.aa _)))) .nil) (.nil _),rfl,rfl⟩
theorem rE{l:List Obj}{n p:Nat}(hn:n<l.length)(hp:p<l.length){name:ByteArray}{E:List (List Dt)}(hE:E=(iF (name,(p:Int)) (l[n].ak.map nq)).map eG){q:Obj}(hq:q={l[p]with am:=IntKind.i64.wrap (l[p].am+1),up:=if l[p].ah=2 then(n:Int)else l[p].up}):
  ∃o2,(l.set p q)[n]? =some o2/\(l.set p q).set n {o2 with ak:=E}=jv l n p name:=by
 subst hE;unfold jv;rw[IE hn];simp only[];by_cases h:p=n
 .subst h;rw[Wl hn,Wl hn];refine⟨_,rfl,?_⟩;simp only[acq];subst hq;rfl
 .rw[ZZ h,IE hn,ZZ (fun e=>h e.symm),IE hp]
  refine⟨_,rfl,?_⟩;simp only[];rw[List.set_comm _ _ h,<-hq]
theorem Ck(l:List Obj)(hs:wo l)(cT bD:Int)(name:ByteArray)(b:Bool)(hN:∀{m:Mem}{K:CV->Mem->Prop},K (ax b) m->au Tryz.prog 113 [eK name] m K):
  body Tryz.prog c119 [b8 l,an .i64 cT,eK name,an .i64 bD] [] (MD (di b l cT name bD)):=by
 have hE:∀R,R=di b l cT name bD->body Tryz.prog c119 [b8 l,an .i64 cT,eK name,an .i64 bD] [] (MD R)->body Tryz.prog c119 [b8 l,an .i64 cT,eK name,an .i64 bD] [] (MD (di b l cT name bD)):=fun R h h2=>h▸h2
 refine ay (fun h1=>?_) (fun h1=>?_)
 .exact fZ 6 (by unfold di;rw[wi h1];rfl)
 obtain⟨n,rfl⟩:∃n:Nat,cT=n:=⟨cT.toNat,by have h1:¬cT<0:=h1;omega⟩
 refine ay (fun h2=>?_) (fun h2=>?_)
 .have h2:(n:Int)>=((l.map Obj.enc).length:Int):=h2;rw[Nq]at h2;exact fZ 6 (by unfold di;rw[wj h2];rfl)
 have h2:¬(n:Int)>=((l.map Obj.enc).length:Int):=h2;rw[Nq]at h2;have hn:n<l.length:=om;have NZ:=iz hn;refine ag NZ ?_;refine bI (fun h3=>?_) (fun h3=>?_)
 .exact fZ 6 (by unfold di;rw[wm hn h3];rfl)
 have h3:l[n].ah≠0:=h3;have d1:=wn hn h3;refine ay (fun h4=>?_) (fun h4=>?_)
 .exact fZ 6 (by unfold di;rw[d1,wi h4];rfl)
 obtain⟨p,rfl⟩:∃p:Nat,bD=p:=⟨bD.toNat,by have h4:¬bD<0:=h4;omega⟩
 refine ay (fun h5=>?_) (fun h5=>?_)
 .have h5:(p:Int)>=((l.map Obj.enc).length:Int):=h5;rw[Nq]at h5;exact fZ 6 (by unfold di;rw[d1,wj h5];rfl)
 have h5:¬(p:Int)>=((l.map Obj.enc).length:Int):=h5;rw[Nq]at h5;have hp:p<l.length:=om;have hgp:=iz hp;refine ag hgp ?_;refine bI (fun h6=>?_) (fun h6=>?_)
 .exact fZ 6 (by unfold di;rw[d1,wm hp h6];rfl)
 have h6:l[p].ah≠0:=h6;have d2:=wn hp h6;have hR:di b l n name p=yF b l[n] (jv l n p name) name:=by unfold di;rw[if_pos d1,if_pos d2,Z3,Z3,IE hn]
 rw[hR];unfold yF;refine ag NZ ?_;refine bG (fun h7=>?_) (fun h7=>?_)
 .exact fZ 11 (if_pos h7)
 have h7:l[n].ah=2:=by simpa using h7
 rw[if_neg (by rw[h7];simp)]
 refine ag NZ ?_;refine bI (fun h8=>?_) (fun h8=>?_)
 .exact fZ 6 (if_pos h8)
 have h8:l[n].am≠0:=h8;rw[if_neg h8];refine hN ?_;cases b with
 |false=>exact fZ 7 (if_pos rfl)
 |true=>
 rw[if_neg aG];obtain⟨es,he,Ag,Pl,dz⟩:=hs.en _ (Z0 hn);have Rc:l[n].ak.map nq=es:=by rw[he,mW]
 refine Cf l n hn h7 es he om name ?_;have X8:wd l es n name=fE es name:=yC Ag name;rw[X8,Rc];refine ay (fun h9=>?_) (fun h9=>?_)
 .exact fZ 7 (if_pos h9)
 rw[if_neg h9];refine ag NZ ?_;refine ay (fun S0=>?_) (fun S0=>?_)
 .exact fZ 15 (if_pos (by have S0:(l[n].ak.length:Int)>=8:=S0;omega))
 have S0:¬(l[n].ak.length:Int)>=8:=S0;rw[if_neg om];have aab:zX es name=false:=by
  have h9:¬fE es name>=0:=h9;rw[<-X8]at h9;cases hb:zX es name with
  |false=>rfl
  |true=>
   exfalso;apply h9;unfold wd;rw[if_pos hb];unfold zX at hb;cases hg:es[p6 es name]? with
   |none=>rw[hg]at hb;cases hb
   |some e=>exact(dz e (Rq hg)).1
 have nA:∀Q,dd (bT n Q 0 l) n=some [.aa (.val (.int .i64 l[n].ah)),.aa (.sl 1 l[n].data),.row Q 2 0 none,.aa (.val (.string l[n].target)),.aa (.val (.int .i64 l[n].aD)),.aa (.sl 4 (l[n].aj.map bw.enc)),.aa (.val (.int .i64 l[n].aM)),.aa (.val (.int .i64 l[n].am)),.aa (.val (.int .i64 l[n].up))]:=fun Q=>by rw[aZ,fM,IE hn,abx,aaG,j8,if_pos rfl]
 have X9:Ae l n l.length= .row 2 (af (es.map de)):=by
  unfold Ae;rw[show Nat.blt n l.length=true by simpa using hn]
  show Bk.row 2 (af (match l[n]? with|some o=>o.ak|none=>[]))=_
  rw[IE hn];show Bk.row 2 (af l[n].ak)=_;rw[he];rfl
 have Wv:∀Q,lenOf (bT n Q 0 l).length 0 none=l.length:=fun Q=>fL n Q l 0
 have sw:∀Q(k:Nat),k<l.length->dH (k:Nat) (lenOf (bT n Q 0 l).length 0 none)=some k:=fun Q k hk=>cn (by rw[Wv];exact hk)
 refine Af l hs.mL n ?_;rw[X9];refine ag (sw 1 n hn) ?_;refine ag (nA 1) ?_;refine SD es om name 146 (fun e m K h=>SL e name h) (id:=1) rfl ?_
 refine ag (sw 1 n hn) ?_;refine ag (nA 1) ?_;have R7:p6 es name<=es.length:=(ov Ag name es.length 0 es.length om om om (fun k e hk=>absurd hk (abb k)) (fun k e hk he=>by have:=(Mh.1 he).1;omega)).1
 refine IS (es.map de) (de (name,(p:Int))) (p6 es name) (by rw[Nq];exact R7) (by rw[Nq];exact Pl) 1 2 rfl rfl rfl rfl ?_
 refine ag (sw 1 n hn) ?_;refine ag (nA 1) ?_;have mR:bb (bT n 1 0 l) n [.aa (.val (.int .i64 l[n].ah)),.aa (.sl 1 l[n].data),.row 3 2 0 none,.aa (.val (.string l[n].target)),.aa (.val (.int .i64 l[n].aD)),.aa (.sl 4 (l[n].aj.map bw.enc)),.aa (.val (.int .i64 l[n].aM)),.aa (.val (.int .i64 l[n].am)),.aa (.val (.int .i64 l[n].up))]=bT n 3 0 l:=by have:=ES (p:=n) (Q:=1) (Q':=3) (IE hn);rw[<-this,j8,if_pos rfl]
 have IT:(es.map de).take (p6 es name)++de (name,(p:Int))::(es.map de).drop (p6 es name)=(iF (name,(p:Int)) (l[n].ak.map nq)).map eG:=by rw[Rc,SP Ag aab,abn,abv,acu,ade];rfl
 have i4:∀L2:List Obj,L2=jv l n p name->aw Tryz.prog 0 ZV (mg Tryz.prog c119.kD (MD (jv l n p name,0))) ⟨iL 128 [(10,b8 L2)],[]⟩:=fun L2 h=>by subst h;exact⟨_,_,View.o 0 [] [] (.eq rfl .nil) (.nil _),rfl,rfl⟩
 by_cases Uj:p=n
 .have Ww:dd (bT n 3 0 l) p=some [.aa (.val (.int .i64 l[p].ah)),.aa (.sl 1 l[p].data),.row 3 2 0 none,.aa (.val (.string l[p].target)),.aa (.val (.int .i64 l[p].aD)),.aa (.sl 4 (l[p].aj.map bw.enc)),.aa (.val (.int .i64 l[p].aM)),.aa (.val (.int .i64 l[p].am)),.aa (.val (.int .i64 l[p].up))]:=by rw[aZ,fM,IE hp,abx,aaG,j8,if_pos Uj]
  have n9:bb (bb (bT n 1 0 l) n [.aa (.val (.int .i64 l[n].ah)),.aa (.sl 1 l[n].data),.row 3 2 0 none,.aa (.val (.string l[n].target)),.aa (.val (.int .i64 l[n].aD)),.aa (.sl 4 (l[n].aj.map bw.enc)),.aa (.val (.int .i64 l[n].aM)),.aa (.val (.int .i64 l[n].am)),.aa (.val (.int .i64 l[n].up))]) p [.aa (.val (.int .i64 l[p].ah)),.aa (.sl 1 l[p].data),.row 3 2 0 none,.aa (.val (.string l[p].target)),.aa (.val (.int .i64 l[p].aD)),.aa (.sl 4 (l[p].aj.map bw.enc)),.aa (.val (.int .i64 l[p].aM)),.aa (.val (.int .i64 (IntKind.i64.wrap (l[p].am+1)))),.aa (.val (.int .i64 l[p].up))]=bT n 3 0 (l.set p {l[p]with am:=IntKind.i64.wrap (l[p].am+1)}):=by
   rw[mR];have:=o8 (p:=n) (Q:=3) (o:={l[p]with am:=IntKind.i64.wrap (l[p].am+1)}) hp
   rw[<-this,j8,if_pos Uj]
  have eC:∀l2:List Obj,l2.length=l.length->dH (p:Nat) (lenOf (bT n 3 0 l2).length 0 none)=some p:=fun l2 h=>cn (by rw[show lenOf (bT n 3 0 l2).length 0 none=l2.length from fL n 3 l2 0,h];exact hp)
  have uo:dd (bb (bb (bT n 1 0 l) n [.aa (.val (.int .i64 l[n].ah)),.aa (.sl 1 l[n].data),.row 3 2 0 none,.aa (.val (.string l[n].target)),.aa (.val (.int .i64 l[n].aD)),.aa (.sl 4 (l[n].aj.map bw.enc)),.aa (.val (.int .i64 l[n].aM)),.aa (.val (.int .i64 l[n].am)),.aa (.val (.int .i64 l[n].up))]) p [.aa (.val (.int .i64 l[p].ah)),.aa (.sl 1 l[p].data),.row 3 2 0 none,.aa (.val (.string l[p].target)),.aa (.val (.int .i64 l[p].aD)),.aa (.sl 4 (l[p].aj.map bw.enc)),.aa (.val (.int .i64 l[p].aM)),.aa (.val (.int .i64 (IntKind.i64.wrap (l[p].am+1)))),.aa (.val (.int .i64 l[p].up))]) p=some [.aa (.val (.int .i64 l[p].ah)),.aa (.sl 1 l[p].data),.row 3 2 0 none,.aa (.val (.string l[p].target)),.aa (.val (.int .i64 l[p].aD)),.aa (.sl 4 (l[p].aj.map bw.enc)),.aa (.val (.int .i64 l[p].aM)),.aa (.val (.int .i64 (IntKind.i64.wrap (l[p].am+1)))),.aa (.val (.int .i64 l[p].up))]:=by
   rw[bj,aZ,Wl (by rw[mR,fL];exact hp)]
  refine ag (by rw[mR];exact eC l rfl:dH (p:Nat) (lenOf (bb (bT n 1 0 l) n [.aa (.val (.int .i64 l[n].ah)),.aa (.sl 1 l[n].data),.row 3 2 0 none,.aa (.val (.string l[n].target)),.aa (.val (.int .i64 l[n].aD)),.aa (.sl 4 (l[n].aj.map bw.enc)),.aa (.val (.int .i64 l[n].aM)),.aa (.val (.int .i64 l[n].am)),.aa (.val (.int .i64 l[n].up))]).length 0 none)=some p) ?_
  refine ag (by rw[mR];exact Ww:dd (bb (bT n 1 0 l) n [.aa (.val (.int .i64 l[n].ah)),.aa (.sl 1 l[n].data),.row 3 2 0 none,.aa (.val (.string l[n].target)),.aa (.val (.int .i64 l[n].aD)),.aa (.sl 4 (l[n].aj.map bw.enc)),.aa (.val (.int .i64 l[n].aM)),.aa (.val (.int .i64 l[n].am)),.aa (.val (.int .i64 l[n].up))]) p=some [.aa (.val (.int .i64 l[p].ah)),.aa (.sl 1 l[p].data),.row 3 2 0 none,.aa (.val (.string l[p].target)),.aa (.val (.int .i64 l[p].aD)),.aa (.sl 4 (l[p].aj.map bw.enc)),.aa (.val (.int .i64 l[p].aM)),.aa (.val (.int .i64 l[p].am)),.aa (.val (.int .i64 l[p].up))]) ?_
  refine ag (by rw[mR];exact eC l rfl:dH (p:Nat) (lenOf (bb (bT n 1 0 l) n [.aa (.val (.int .i64 l[n].ah)),.aa (.sl 1 l[n].data),.row 3 2 0 none,.aa (.val (.string l[n].target)),.aa (.val (.int .i64 l[n].aD)),.aa (.sl 4 (l[n].aj.map bw.enc)),.aa (.val (.int .i64 l[n].aM)),.aa (.val (.int .i64 l[n].am)),.aa (.val (.int .i64 l[n].up))]).length 0 none)=some p) ?_
  refine ag (by rw[mR];exact Ww:dd (bb (bT n 1 0 l) n [.aa (.val (.int .i64 l[n].ah)),.aa (.sl 1 l[n].data),.row 3 2 0 none,.aa (.val (.string l[n].target)),.aa (.val (.int .i64 l[n].aD)),.aa (.sl 4 (l[n].aj.map bw.enc)),.aa (.val (.int .i64 l[n].aM)),.aa (.val (.int .i64 l[n].am)),.aa (.val (.int .i64 l[n].up))]) p=some [.aa (.val (.int .i64 l[p].ah)),.aa (.sl 1 l[p].data),.row 3 2 0 none,.aa (.val (.string l[p].target)),.aa (.val (.int .i64 l[p].aD)),.aa (.sl 4 (l[p].aj.map bw.enc)),.aa (.val (.int .i64 l[p].aM)),.aa (.val (.int .i64 l[p].am)),.aa (.val (.int .i64 l[p].up))]) ?_
  refine ag (by rw[n9];exact eC _ (aaJ ..):dH (p:Nat) (lenOf (bb (bb (bT n 1 0 l) n [.aa (.val (.int .i64 l[n].ah)),.aa (.sl 1 l[n].data),.row 3 2 0 none,.aa (.val (.string l[n].target)),.aa (.val (.int .i64 l[n].aD)),.aa (.sl 4 (l[n].aj.map bw.enc)),.aa (.val (.int .i64 l[n].aM)),.aa (.val (.int .i64 l[n].am)),.aa (.val (.int .i64 l[n].up))]) p [.aa (.val (.int .i64 l[p].ah)),.aa (.sl 1 l[p].data),.row 3 2 0 none,.aa (.val (.string l[p].target)),.aa (.val (.int .i64 l[p].aD)),.aa (.sl 4 (l[p].aj.map bw.enc)),.aa (.val (.int .i64 l[p].aM)),.aa (.val (.int .i64 (IntKind.i64.wrap (l[p].am+1)))),.aa (.val (.int .i64 l[p].up))]).length 0 none)=some p) ?_
  refine ag uo ?_;refine bI (fun hk=>?_) (fun hk=>?_)
  .have hk:l[p].ah=2:=hk;have MF:bb (bb (bb (bT n 1 0 l) n [.aa (.val (.int .i64 l[n].ah)),.aa (.sl 1 l[n].data),.row 3 2 0 none,.aa (.val (.string l[n].target)),.aa (.val (.int .i64 l[n].aD)),.aa (.sl 4 (l[n].aj.map bw.enc)),.aa (.val (.int .i64 l[n].aM)),.aa (.val (.int .i64 l[n].am)),.aa (.val (.int .i64 l[n].up))]) p [.aa (.val (.int .i64 l[p].ah)),.aa (.sl 1 l[p].data),.row 3 2 0 none,.aa (.val (.string l[p].target)),.aa (.val (.int .i64 l[p].aD)),.aa (.sl 4 (l[p].aj.map bw.enc)),.aa (.val (.int .i64 l[p].aM)),.aa (.val (.int .i64 (IntKind.i64.wrap (l[p].am+1)))),.aa (.val (.int .i64 l[p].up))]) p [.aa (.val (.int .i64 l[p].ah)),.aa (.sl 1 l[p].data),.row 3 2 0 none,.aa (.val (.string l[p].target)),.aa (.val (.int .i64 l[p].aD)),.aa (.sl 4 (l[p].aj.map bw.enc)),.aa (.val (.int .i64 l[p].aM)),.aa (.val (.int .i64 (IntKind.i64.wrap (l[p].am+1)))),.aa (.val (.int .i64 (n:Nat)))]=bT n 3 0 (l.set p {l[p]with am:=IntKind.i64.wrap (l[p].am+1),up:=(n:Int)}):=by
    rw[n9];have:=o8 (p:=n) (Q:=3) (l:=l.set p {l[p]with am:=IntKind.i64.wrap (l[p].am+1)}) (k:=p) (o:={l[p]with am:=IntKind.i64.wrap (l[p].am+1),up:=(n:Int)}) (by rw[aaJ];exact hp)
    rw[acq]at this;rw[<-this,j8,if_pos Uj]
   refine ag (by rw[n9];exact eC _ (aaJ ..):dH (p:Nat) (lenOf (bb (bb (bT n 1 0 l) n [.aa (.val (.int .i64 l[n].ah)),.aa (.sl 1 l[n].data),.row 3 2 0 none,.aa (.val (.string l[n].target)),.aa (.val (.int .i64 l[n].aD)),.aa (.sl 4 (l[n].aj.map bw.enc)),.aa (.val (.int .i64 l[n].aM)),.aa (.val (.int .i64 l[n].am)),.aa (.val (.int .i64 l[n].up))]) p [.aa (.val (.int .i64 l[p].ah)),.aa (.sl 1 l[p].data),.row 3 2 0 none,.aa (.val (.string l[p].target)),.aa (.val (.int .i64 l[p].aD)),.aa (.sl 4 (l[p].aj.map bw.enc)),.aa (.val (.int .i64 l[p].aM)),.aa (.val (.int .i64 (IntKind.i64.wrap (l[p].am+1)))),.aa (.val (.int .i64 l[p].up))]).length 0 none)=some p) ?_
   refine ag uo ?_;obtain⟨o2,oV,eA⟩:=rE (name:=name) hn hp IT (q:={l[p]with am:=IntKind.i64.wrap (l[p].am+1),up:=(n:Int)}) (by rw[if_pos hk])
   refine⟨_,View.o 4 [] [0,3] ?_ (.nil _),i4 _ eA⟩
   iterate 10 refine .aq ?_
   refine .put (.rv (.one (.e8 (p:=none) (GW (Z:=fun k=>bz [0,3] k=true) rfl (by show some (Bk.row 9 _)=some (Bk.row 9 _);congr 1;exact congrArg _ MF) rfl rfl oV)))) ?_
   repeat(first|exact .nil|refine .aq ?_)
  .have hk:l[p].ah≠2:=hk;obtain⟨o2,oV,eA⟩:=rE (name:=name) hn hp IT (q:={l[p]with am:=IntKind.i64.wrap (l[p].am+1)}) (by rw[if_neg hk])
   refine⟨_,View.o 4 [] [0,3] ?_ (.nil _),i4 _ eA⟩
   iterate 10 refine .aq ?_
   refine .put (.rv (.one (.e8 (p:=none) (GW (Z:=fun k=>bz [0,3] k=true) rfl (by show some (Bk.row 9 _)=some (Bk.row 9 _);congr 1;exact congrArg _ n9) rfl rfl oV)))) ?_
   repeat(first|exact .nil|refine .aq ?_)
 .have Ww:dd (bT n 3 0 l) p=some [.aa (.val (.int .i64 l[p].ah)),.aa (.sl 1 l[p].data),.aa (.sl 2 l[p].ak),.aa (.val (.string l[p].target)),.aa (.val (.int .i64 l[p].aD)),.aa (.sl 4 (l[p].aj.map bw.enc)),.aa (.val (.int .i64 l[p].aM)),.aa (.val (.int .i64 l[p].am)),.aa (.val (.int .i64 l[p].up))]:=by rw[aZ,fM,IE hp,abx,aaG,j8,if_neg Uj]
  have n9:bb (bb (bT n 1 0 l) n [.aa (.val (.int .i64 l[n].ah)),.aa (.sl 1 l[n].data),.row 3 2 0 none,.aa (.val (.string l[n].target)),.aa (.val (.int .i64 l[n].aD)),.aa (.sl 4 (l[n].aj.map bw.enc)),.aa (.val (.int .i64 l[n].aM)),.aa (.val (.int .i64 l[n].am)),.aa (.val (.int .i64 l[n].up))]) p [.aa (.val (.int .i64 l[p].ah)),.aa (.sl 1 l[p].data),.aa (.sl 2 l[p].ak),.aa (.val (.string l[p].target)),.aa (.val (.int .i64 l[p].aD)),.aa (.sl 4 (l[p].aj.map bw.enc)),.aa (.val (.int .i64 l[p].aM)),.aa (.val (.int .i64 (IntKind.i64.wrap (l[p].am+1)))),.aa (.val (.int .i64 l[p].up))]=bT n 3 0 (l.set p {l[p]with am:=IntKind.i64.wrap (l[p].am+1)}):=by
   rw[mR];have:=o8 (p:=n) (Q:=3) (o:={l[p]with am:=IntKind.i64.wrap (l[p].am+1)}) hp
   rw[<-this,j8,if_neg Uj]
  have eC:∀l2:List Obj,l2.length=l.length->dH (p:Nat) (lenOf (bT n 3 0 l2).length 0 none)=some p:=fun l2 h=>cn (by rw[show lenOf (bT n 3 0 l2).length 0 none=l2.length from fL n 3 l2 0,h];exact hp)
  have uo:dd (bb (bb (bT n 1 0 l) n [.aa (.val (.int .i64 l[n].ah)),.aa (.sl 1 l[n].data),.row 3 2 0 none,.aa (.val (.string l[n].target)),.aa (.val (.int .i64 l[n].aD)),.aa (.sl 4 (l[n].aj.map bw.enc)),.aa (.val (.int .i64 l[n].aM)),.aa (.val (.int .i64 l[n].am)),.aa (.val (.int .i64 l[n].up))]) p [.aa (.val (.int .i64 l[p].ah)),.aa (.sl 1 l[p].data),.aa (.sl 2 l[p].ak),.aa (.val (.string l[p].target)),.aa (.val (.int .i64 l[p].aD)),.aa (.sl 4 (l[p].aj.map bw.enc)),.aa (.val (.int .i64 l[p].aM)),.aa (.val (.int .i64 (IntKind.i64.wrap (l[p].am+1)))),.aa (.val (.int .i64 l[p].up))]) p=some [.aa (.val (.int .i64 l[p].ah)),.aa (.sl 1 l[p].data),.aa (.sl 2 l[p].ak),.aa (.val (.string l[p].target)),.aa (.val (.int .i64 l[p].aD)),.aa (.sl 4 (l[p].aj.map bw.enc)),.aa (.val (.int .i64 l[p].aM)),.aa (.val (.int .i64 (IntKind.i64.wrap (l[p].am+1)))),.aa (.val (.int .i64 l[p].up))]:=by
   rw[bj,aZ,Wl (by rw[mR,fL];exact hp)]
  refine ag (by rw[mR];exact eC l rfl:dH (p:Nat) (lenOf (bb (bT n 1 0 l) n [.aa (.val (.int .i64 l[n].ah)),.aa (.sl 1 l[n].data),.row 3 2 0 none,.aa (.val (.string l[n].target)),.aa (.val (.int .i64 l[n].aD)),.aa (.sl 4 (l[n].aj.map bw.enc)),.aa (.val (.int .i64 l[n].aM)),.aa (.val (.int .i64 l[n].am)),.aa (.val (.int .i64 l[n].up))]).length 0 none)=some p) ?_
  refine ag (by rw[mR];exact Ww:dd (bb (bT n 1 0 l) n [.aa (.val (.int .i64 l[n].ah)),.aa (.sl 1 l[n].data),.row 3 2 0 none,.aa (.val (.string l[n].target)),.aa (.val (.int .i64 l[n].aD)),.aa (.sl 4 (l[n].aj.map bw.enc)),.aa (.val (.int .i64 l[n].aM)),.aa (.val (.int .i64 l[n].am)),.aa (.val (.int .i64 l[n].up))]) p=some [.aa (.val (.int .i64 l[p].ah)),.aa (.sl 1 l[p].data),.aa (.sl 2 l[p].ak),.aa (.val (.string l[p].target)),.aa (.val (.int .i64 l[p].aD)),.aa (.sl 4 (l[p].aj.map bw.enc)),.aa (.val (.int .i64 l[p].aM)),.aa (.val (.int .i64 l[p].am)),.aa (.val (.int .i64 l[p].up))]) ?_
  refine ag (by rw[mR];exact eC l rfl:dH (p:Nat) (lenOf (bb (bT n 1 0 l) n [.aa (.val (.int .i64 l[n].ah)),.aa (.sl 1 l[n].data),.row 3 2 0 none,.aa (.val (.string l[n].target)),.aa (.val (.int .i64 l[n].aD)),.aa (.sl 4 (l[n].aj.map bw.enc)),.aa (.val (.int .i64 l[n].aM)),.aa (.val (.int .i64 l[n].am)),.aa (.val (.int .i64 l[n].up))]).length 0 none)=some p) ?_
  refine ag (by rw[mR];exact Ww:dd (bb (bT n 1 0 l) n [.aa (.val (.int .i64 l[n].ah)),.aa (.sl 1 l[n].data),.row 3 2 0 none,.aa (.val (.string l[n].target)),.aa (.val (.int .i64 l[n].aD)),.aa (.sl 4 (l[n].aj.map bw.enc)),.aa (.val (.int .i64 l[n].aM)),.aa (.val (.int .i64 l[n].am)),.aa (.val (.int .i64 l[n].up))]) p=some [.aa (.val (.int .i64 l[p].ah)),.aa (.sl 1 l[p].data),.aa (.sl 2 l[p].ak),.aa (.val (.string l[p].target)),.aa (.val (.int .i64 l[p].aD)),.aa (.sl 4 (l[p].aj.map bw.enc)),.aa (.val (.int .i64 l[p].aM)),.aa (.val (.int .i64 l[p].am)),.aa (.val (.int .i64 l[p].up))]) ?_
  refine ag (by rw[n9];exact eC _ (aaJ ..):dH (p:Nat) (lenOf (bb (bb (bT n 1 0 l) n [.aa (.val (.int .i64 l[n].ah)),.aa (.sl 1 l[n].data),.row 3 2 0 none,.aa (.val (.string l[n].target)),.aa (.val (.int .i64 l[n].aD)),.aa (.sl 4 (l[n].aj.map bw.enc)),.aa (.val (.int .i64 l[n].aM)),.aa (.val (.int .i64 l[n].am)),.aa (.val (.int .i64 l[n].up))]) p [.aa (.val (.int .i64 l[p].ah)),.aa (.sl 1 l[p].data),.aa (.sl 2 l[p].ak),.aa (.val (.string l[p].target)),.aa (.val (.int .i64 l[p].aD)),.aa (.sl 4 (l[p].aj.map bw.enc)),.aa (.val (.int .i64 l[p].aM)),.aa (.val (.int .i64 (IntKind.i64.wrap (l[p].am+1)))),.aa (.val (.int .i64 l[p].up))]).length 0 none)=some p) ?_
  refine ag uo ?_;refine bI (fun hk=>?_) (fun hk=>?_)
  .have hk:l[p].ah=2:=hk;have MF:bb (bb (bb (bT n 1 0 l) n [.aa (.val (.int .i64 l[n].ah)),.aa (.sl 1 l[n].data),.row 3 2 0 none,.aa (.val (.string l[n].target)),.aa (.val (.int .i64 l[n].aD)),.aa (.sl 4 (l[n].aj.map bw.enc)),.aa (.val (.int .i64 l[n].aM)),.aa (.val (.int .i64 l[n].am)),.aa (.val (.int .i64 l[n].up))]) p [.aa (.val (.int .i64 l[p].ah)),.aa (.sl 1 l[p].data),.aa (.sl 2 l[p].ak),.aa (.val (.string l[p].target)),.aa (.val (.int .i64 l[p].aD)),.aa (.sl 4 (l[p].aj.map bw.enc)),.aa (.val (.int .i64 l[p].aM)),.aa (.val (.int .i64 (IntKind.i64.wrap (l[p].am+1)))),.aa (.val (.int .i64 l[p].up))]) p [.aa (.val (.int .i64 l[p].ah)),.aa (.sl 1 l[p].data),.aa (.sl 2 l[p].ak),.aa (.val (.string l[p].target)),.aa (.val (.int .i64 l[p].aD)),.aa (.sl 4 (l[p].aj.map bw.enc)),.aa (.val (.int .i64 l[p].aM)),.aa (.val (.int .i64 (IntKind.i64.wrap (l[p].am+1)))),.aa (.val (.int .i64 (n:Nat)))]=bT n 3 0 (l.set p {l[p]with am:=IntKind.i64.wrap (l[p].am+1),up:=(n:Int)}):=by
    rw[n9];have:=o8 (p:=n) (Q:=3) (l:=l.set p {l[p]with am:=IntKind.i64.wrap (l[p].am+1)}) (k:=p) (o:={l[p]with am:=IntKind.i64.wrap (l[p].am+1),up:=(n:Int)}) (by rw[aaJ];exact hp)
    rw[acq]at this;rw[<-this,j8,if_neg Uj]
   refine ag (by rw[n9];exact eC _ (aaJ ..):dH (p:Nat) (lenOf (bb (bb (bT n 1 0 l) n [.aa (.val (.int .i64 l[n].ah)),.aa (.sl 1 l[n].data),.row 3 2 0 none,.aa (.val (.string l[n].target)),.aa (.val (.int .i64 l[n].aD)),.aa (.sl 4 (l[n].aj.map bw.enc)),.aa (.val (.int .i64 l[n].aM)),.aa (.val (.int .i64 l[n].am)),.aa (.val (.int .i64 l[n].up))]) p [.aa (.val (.int .i64 l[p].ah)),.aa (.sl 1 l[p].data),.aa (.sl 2 l[p].ak),.aa (.val (.string l[p].target)),.aa (.val (.int .i64 l[p].aD)),.aa (.sl 4 (l[p].aj.map bw.enc)),.aa (.val (.int .i64 l[p].aM)),.aa (.val (.int .i64 (IntKind.i64.wrap (l[p].am+1)))),.aa (.val (.int .i64 l[p].up))]).length 0 none)=some p) ?_
   refine ag uo ?_;obtain⟨o2,oV,eA⟩:=rE (name:=name) hn hp IT (q:={l[p]with am:=IntKind.i64.wrap (l[p].am+1),up:=(n:Int)}) (by rw[if_pos hk])
   refine⟨_,View.o 4 [] [0,3] ?_ (.nil _),i4 _ eA⟩
   iterate 10 refine .aq ?_
   refine .put (.rv (.one (.e8 (p:=none) (GW (Z:=fun k=>bz [0,3] k=true) rfl (by show some (Bk.row 9 _)=some (Bk.row 9 _);congr 1;exact congrArg _ MF) rfl rfl oV)))) ?_
   repeat(first|exact .nil|refine .aq ?_)
  .have hk:l[p].ah≠2:=hk;obtain⟨o2,oV,eA⟩:=rE (name:=name) hn hp IT (q:={l[p]with am:=IntKind.i64.wrap (l[p].am+1)}) (by rw[if_neg hk])
   refine⟨_,View.o 4 [] [0,3] ?_ (.nil _),i4 _ eA⟩
   iterate 10 refine .aq ?_
   refine .put (.rv (.one (.e8 (p:=none) (GW (Z:=fun k=>bz [0,3] k=true) rfl (by show some (Bk.row 9 _)=some (Bk.row 9 _);congr 1;exact congrArg _ n9) rfl rfl oV)))) ?_
   repeat(first|exact .nil|refine .aq ?_)
theorem IU(l:List Obj)(hs:wo l)(cT bD:Int)(name:ByteArray)(b:Bool)(hN:∀{m:Mem}{K:CV->Mem->Prop},K (ax b) m->au Tryz.prog 113 [eK name] m K){m:Mem}{K:CV->Mem->Prop}(h:K (.bK [mB (di b l cT name bD).1,cS (di b l cT name bD).2]) m):au Tryz.prog 119 [b8 l,an .i64 cT,eK name,an .i64 bD] m K:=by
 refine be (K0:=fun r m=>r= .bK [mB (di b l cT name bD).1,cS (di b l cT name bD).2]/\m=[]) (bJ (cg Tryz.func119 l119 (Ck l hs cT bD name b hN)) fun r m1⟨r',m',hv,h1,h2⟩=>⟨r',m',hv,h1,h2⟩) (by simp[b8,an,eK,CV.dm,CC.dm]) fun r m1 hr=>?_
 obtain⟨rfl,rfl⟩:=hr;exact⟨_,cJ.self rfl,h⟩
def c51:LF:= ⟨3,[.tmp 0],(.seq (.ai [qu 0 (.aH qe)]) (.seq (.ai [qu 1 (.build [qd 0,.aI,.aI,(.aa (.val (.string ⟨#[]⟩))),qd 0,.aI,qd 0,qd 0,qd 0] [(0,1,qi 2),(7,1,qi 1),(4,1,(qi (-1))),(6,1,(qi (-1)))]),qu 2 (.ln 9 [qd 0,.aI,.aI,(.aa (.val (.string ⟨#[]⟩))),qd 0,.aI,qd 0,qd 0,qd 0] 1 [(0,1)]),qm 0 2]) .ret))⟩
def c75:LF:= ⟨90,[.tmp 6,.tmp 7,.tmp 8],(.seq (.ai [qu 5 (.box 2),qu 6 (.aH qe),qu 7 (.aH (qi 0)),qu 8 (.aH (qi 0))]) (.seq (.seq (.ai [qm 11 1,qu 12 (.aF .lss 11 (qi 0)),qm 13 12,qg 14 (.aH 1) 13 false,qg 15 (.aH 0) 13 false,qg 16 (.len 1 15) 13 false,qg 17 (.aF .geq 14 16) 13 false,qu 18 (.pick 13 (qb true) 17),qm 19 18,qg 20 (.aH 0) 19 false,qg 21 (.aH 1) 19 false,qg 22 (.bW 9 20 21) 19 false,qg 23 (.br 0 22) 19 false,qg 24 (.load false 1 23) 19 false,qg 25 (.aF .eql 24 (qi 0)) 19 false,qu 26 (.pick 19 (qb true) 25)]) (.cond 26 (.seq (.ai [qu 6 (.aH qe),qu 7 (.aH (qi 0)),qu 8 (.aH (qi 6))]) .ret) .skip)) (.seq (.seq (.ai [qm 27 0,qm 28 1,qu 29 (.bW 9 27 28),qf 30 0 29,ql 31 30,qu 32 (.aF .neq 31 (qi 2))]) (.cond 32 (.seq (.ai [qu 6 (.aH qe),qu 7 (.aH (qi 0)),qu 8 (.aH (qi 11))]) .ret) .skip)) (.seq (.ai [qm 33 0,qm 34 1,ql 35 5,qu 36 (qc 115 [33,34,35]),qm 9 36]) (.seq (.block 0 (.seq (.ai [qm 38 9,qu 39 (.aF .lss 38 (qi 0)),qm 37 39]) (.cond 37 (.seq (.ai [qu 6 (.aH qe),qu 7 (.aH (qi 0)),qu 8 (.aH (qi 6))]) .ret) (.seq (.ai [qm 41 0,qm 42 9,qu 43 (.bW 9 41 42),qf 44 0 43,ql 45 44,qu 46 (.aF .eql 45 (qi 2)),qm 47 46,qg 48 (.aH 0) 47 true,qg 49 (.aH 9) 47 true,qg 50 (.bW 9 48 49) 47 true,qg 51 (.br 2 50) 47 true,qg 52 (.load false 1 51) 47 true,qg 53 (.len 1 52) 47 true,qg 54 (.aF .gtr 53 (qi 0)) 47 true,qu 55 (.pick 47 54 (qb false)),qm 40 55]) (.cond 40 (.seq (.ai [qu 6 (.aH qe),qu 7 (.aH (qi 0)),qu 8 (.aH (qi 18))]) .ret) .skip))))) (.seq (.ai [qm 56 0,qu 57 (qc 105 [56]),qm 10 57]) (.seq (.ai [qm 58 10,qm 59 1,qm 60 10,qm 61 1,qu 62 (.bW 9 60 61),qf 63 2 62,ql 64 63,qu 65 (.fn 117 [5]),qu 66 (qc 116 [64,65]),qu 67 (.bW 9 58 59),qf 68 2 67,qw (.store 1 68 66)]) (.seq (.ai [qm 69 10,qm 70 9,qu 71 (.bW 9 69 70),qf 72 7 71,ql 73 72,qu 74 (.aF .sub 73 (qi 1)),qu 75 (.bW 9 69 70),qf 76 7 75,qw (.store 1 76 74)]) (.seq (.seq (.ai [qm 77 10,qm 78 9,qu 79 (.bW 9 77 78),qf 80 0 79,ql 81 80,qu 82 (.aF .eql 81 (qi 2))]) (.cond 82 (.ai [qm 83 10,qm 84 9,qm 85 9,qu 86 (.bW 9 83 84),qf 87 8 86,qw (.store 1 87 85)]) .skip)) (.cu (.seq (.ai [qm 88 10,qm 89 9,qm 6 88,qm 7 89,qu 8 (.aH (qi 0))]) .ret)))))))))))⟩
def c116:LF:= ⟨42,[.tmp 4],(.seq (.ai [qu 4 (.aH qe)]) (.seq (.ai [qm 8 0,qm 9 1,qu 10 (qc 144 [8,9]),qm 5 10]) (.seq (.seq (.ai [qm 11 5,qu 12 (.aF .eql 11 (qi (-1)))]) (.cond 12 (.seq (.ai [qm 13 0,qm 4 13]) .ret) .skip)) (.seq (.seq (.ai [qm 14 5,qu 15 (.aF .add 14 (qi 1)),qm 6 15]) (.block 0 (.loop (.seq (.seq (.ai [qm 16 6,qm 17 0,qu 18 (.len 1 17),qu 19 (.aF .lss 16 18)]) (.cond 19 .skip (.exit 0))) (.seq (.block 1 (.seq (.ai [qm 22 0,qm 23 6,qu 24 (.bW 2 22 23),qL 25 2 24,qu 7 (.alloc [(.aa (.val (.string ⟨#[]⟩))),qd 0]),qw (.store 2 7 25)]) (.seq (.ai [qm 26 1,qL 27 2 7,qu 28 (.call 26 [27]),qu 29 (.un .not 28)]) (.cond 29 (.seq (.ai [qm 30 0,qm 31 5,qL 32 2 7,qu 33 (.bW 2 30 31),qw (.store 2 33 32)]) (.ai [qm 34 5,qu 35 (.aF .add 34 (qi 1)),qm 5 35])) .skip)))) (.ai [qm 20 6,qu 21 (.aF .add 20 (qi 1)),qm 6 21])))))) (.seq (.ai [qm 36 0,qm 37 5,qu 38 (.nh 2 36 (some 37) none none),qw (.TT 2 [(.aa (.val (.string ⟨#[]⟩))),qd 0] 38)]) (.seq (.ai [qm 39 0,qm 40 5,qu 41 (.nh 2 39 none (some 40) none),qm 4 41]) .ret))))))⟩
def c117:LF:= ⟨8,[.tmp 3],(.seq (.ai [qu 2 (.box 0),qu 3 (.aH (qb false))]) (.seq (.ai [qf 4 0 2,ql 5 4,ql 6 1,qu 7 (.aF .eql 5 6),qm 3 7]) .ret))⟩
def c144:LF:= ⟨19,[.tmp 4],(.seq (.ai [qu 4 (.aH (qi 0))]) (.seq (.seq (.ai [qm 6 0,qu 7 (.len 1 6),qu 8 (.aH (qi 0))]) (.block 0 (.loop (.seq (.ai [qu 9 (.aF .lss 8 7)]) (.seq (.cond 9 .skip (.exit 0)) (.seq (.block 1 (.seq (.ai [qm 10 8,qm 5 10]) (.seq (.ai [qm 11 1,qm 12 0,qm 13 5,qu 14 (.bW 2 12 13),qL 15 2 14,qu 16 (.call 11 [15])]) (.cond 16 (.seq (.ai [qm 17 5,qm 4 17]) .ret) .skip)))) (.ai [qu 18 (.aF .add 8 (qi 1)),qm 8 18]))))))) (.seq (.ai [qu 4 (.aH (qi (-1)))]) .ret)))⟩
inductive pD(σ:Nat->Nat)(m:Mem)(Z:Nat->Prop):List CC->List CC->Prop
 |nil:pD σ m Z [] []
 |cons {c c':CC} {r r':List CC} (h:qA σ m Z none c c') (hr:pD σ m Z r r'):pD σ m Z (c::r) (c'::r')
theorem pD.len{σ:Nat->Nat}{m:Mem}{Z:Nat->Prop}{cs eh:List CC}(h:pD σ m Z cs eh):cs.length=eh.length:=by
 induction h<;>simp[*]
theorem pD.get{σ:Nat->Nat}{m:Mem}{Z:Nat->Prop}{cs eh:List CC}(h:pD σ m Z cs eh):∀(i:Nat)c c',cs[i]? =some c->eh[i]? =some c'->qA σ m Z none c c':=by
 induction h with
 |nil=>intro i c c' h;simp at h
 |cons h hr ih=>
  intro i c c' h1 h2;cases i with
  |zero=>simp at h1 h2;subst h1 h2;exact h
  |succ i=>exact ih i c c' (by simpa using h1) (by simpa using h2)
theorem pD.agg{σ:Nat->Nat}{m:Mem}{Z:Nat->Prop}{cs eh:List CC}(h:pD σ m Z cs eh):pW σ m Z (.rv (.agg cs)) (.rv (.agg eh)):= .rv (.agg h.len h.get)
theorem l117:bx Tryz.prog Tryz.f117=some c117:=by kernel_rfl
theorem l144:bx Tryz.prog Tryz.f144=some c144:=by kernel_rfl
theorem l116:bx Tryz.prog Tryz.f116=some c116:=by kernel_rfl
theorem l75:bx Tryz.prog Tryz.f75=some c75.er:=by kernel_rfl
theorem l51:bx Tryz.prog Tryz.f51=some c51:=by kernel_rfl
def G88:LC:=ZT (mG (mG (mG (mG (mG (mG (mG (mG (mG c75.code)))))))))
def MG(name:ByteArray):Bk:= .var [.aa (.val (.string name))]
theorem Cm(e:NE)(name:ByteArray):body Tryz.prog c117 [vY e,.rv (.one (.ptr 0 0))] [.var ([Dt.val (.string name)].map .aa)] (fun r m=>r=ax (e.1.toList==name.toList)/\∃ex,m= .var ([Dt.val (.string name)].map .aa)::ex):=by exact⟨rfl,_,rfl⟩
theorem MH(e:NE)(name:ByteArray)(K:CV->Mem->Prop)(h:K (ax (e.1.toList==name.toList)) [.var ([Dt.val (.string name)].map .aa)]):au Tryz.prog 117 [vY e,.rv (.one (.ptr 0 0))] [.var ([Dt.val (.string name)].map .aa)] K:=
 eF rfl (aX Tryz.func117 l117 (Cm e name)) h
theorem ET{es:List NE}{k:Nat}(h:k<es.length):dd (af (es.map de)) k=some [.aa (.val (.string es[k].1)),.aa (.val (.int .i64 es[k].2))]:=by rw[aZ];simp[af,h,de]
theorem IV(es:List NE):lenOf (af (es.map de)).length 0 none=es.length:=by show(af (es.map de)).length=_;simp[af]
theorem Cn(es:List NE)(hl:es.length<=4194304)(name:ByteArray)(j:Nat)(hj:j<es.length)(hjn:es[j].1.toList=name.toList)(hb:∀(i:Nat)e,i<j->es[i]? =some e->e.1.toList≠name.toList):
  body Tryz.prog c144 [.rv (.one (.row 0 2 0 none)),.rv (.one (.fn 117 [1]))] [.row 2 (af (es.map de)),MG name] (fun r m=>r=an .i64 (j:Nat)/\m=[.row 2 (af (es.map de)),MG name]):=by
 refine aK (fun k=>k<=j) [0,1] (fun k=>[(7,an .i64 (es.length:Nat)),(8,an .i64 (k:Nat))]) (fun _=>[.row 2 (af (es.map de)),MG name]) (fun k=>j-k) 0 (Wi _) ?_ (fun k hk=>?_)
 .refine View.o 2 [0,1] [] ?_ ?_
  .repeat(first|exact .nil|refine .aq ?_|refine .eq rfl ?_|refine .put (.aO (by rw[IV];rfl)) ?_)
  .exact .pr rfl rfl rfl (.pt rfl rfl (.jn (ds:=[.val (.string name)]) rfl) (.nil _))
 have hk:k<=j:=hk;have fj:k<es.length:=om;refine bY (decide_eq_true (by show(k:Int)<(es.length:Int);omega)) ?_
 refine ag (cn (by rw[IV];exact fj):dH (k:Nat) (lenOf (af (es.map de)).length 0 none)=some k) ?_
 refine ag (ET fj) ?_;refine fe (args0:=[vY es[k],.rv (.one (.ptr 0 0))]) (cs:=[.val (.string name)]) 1 rfl rfl (r0:=ax (es[k].1.toList==name.toList)) rfl (fun K hK=>MH es[k] name K hK) ?_
 refine aC (fun h=>?_) (fun h=>?_)
 .have h:es[k].1.toList=name.toList:=by simpa using h
  have:k=j:=by
   rcases ZX k j with h2|h2
   .exact absurd h (hb k _ h2 (IE fj))
   .omega
  subst this;exact⟨rfl,rfl⟩
 .have fc:k≠j:=fun e=>by subst e;rw[hjn]at h;simp at h
  refine⟨k+1,(by show k+1<=j;omega),(show j-(k+1)<j-k by omega),View.o 2 [0,1] [] ?_ ?_⟩
  .repeat(first|exact .nil|refine .aq ?_|refine .put (.aO (ap om).symm) ?_|refine .eq rfl ?_)
  .exact .pr rfl rfl rfl (.pt rfl rfl (.jn (ds:=[.val (.string name)]) rfl) (.nil _))
structure StD where
 t:Nat
 y:NE
def kX(a b:List NE)(t:Nat)(y:NE):List NE:=a++b.take t++y::b.drop t
theorem MI{a b:List NE}{t:Nat}(h:t<=b.length)(y:NE):(kX a b t y).length=a.length+b.length+1:=by simp[kX];omega
theorem IW{a b:List NE}{t:Nat}(h:t<b.length)(y:NE):(kX a b t y).set (a.length+t) b[t]=kX a b (t+1) b[t]/\(kX a b t y)[a.length+1+t]? =some b[t]:=by
 have h1:(a++b.take t).length=a.length+t:=by simp;omega
 have hd:b.drop t=b[t]::b.drop (t+1):=acF h;constructor
 .unfold kX;rw[acU _ _ om,h1,acH,List.set_cons_zero,List.take_succ_eq_append_getElem h,hd];simp only[acM,List.singleton_append]
 .unfold kX;rw[ZW om,h1,show a.length+1+t-(a.length+t)=1 by omega,hd]
  rfl
def Pm:NE:=(⟨#[]⟩,0)
theorem IX(a b:List NE)(x:NE)(hl:a.length+b.length<=4194303)(name:ByteArray)(hx:x.1.toList=name.toList)(ha:∀e,e∈a->e.1.toList≠name.toList)(hb:∀e,e∈b->e.1.toList≠name.toList):
  body Tryz.prog c116 [.rv (.one (.row 0 2 0 none)),.rv (.one (.fn 117 [1]))] [.row 2 (af ((a++x::b).map de)),MG name]
  (fun r m=>r= .rv (.one (.row 0 2 0 (some (a.length+b.length))))/\m=[.row 2 (af ((a++b++ [Pm]).map de)),MG name]):=by
 have hlen:(a++x::b).length=a.length+b.length+1:=by simp;omega
 refine(aX Tryz.func144 l144 (Cn (a++x::b) om name a.length om (by simp[hx]) (fun i e hi he=>?_))).mono fun r m⟨hr,hm⟩=>?_
 .rw[ZY hi]at he;exact ha e (Rq he)
 subst hr hm;refine aK (fun s:StD=>s.t<=b.length) [0,1] (fun s=>[(5,an .i64 ((a.length+s.t:Nat):Int)),(6,an .i64 ((a.length+1+s.t:Nat):Int))]) (fun s=>[.row 2 (af ((kX a b s.t s.y).map de)),MG name]) (fun s=>b.length-s.t) ⟨0,x⟩ (Wi _) ?_ (fun s hs=>?_)
 .refine View.o 2 [0,1] [] ?_ ?_
  .repeat(first|exact .nil|refine .aq ?_|refine .eq rfl ?_|refine .put (.aO (ap om).symm) ?_)
  .exact .pt rfl rfl (.bM (by show af _=af _;simp[kX])) (.pt rfl rfl (.jn (ds:=[.val (.string name)]) rfl) (.nil _))
 obtain⟨t,y⟩:=s;have hs:t<=b.length:=hs;have lH:=MI (a:=a) hs y;refine ay (fun h=>?_) (fun h=>?_)
 .have h:((a.length+1+t:Nat):Int)<((lenOf (af ((kX a b t y).map de)).length 0 none:Nat):Int):=h;rw[IV,lH]at h;have ht:t<b.length:=om;obtain⟨n1,n2⟩:=IW (a:=a) ht y;have km:a.length+1+t<(kX a b t y).length:=om;have mi:(kX a b t y)[a.length+1+t]=b[t]:=by rw[IE km]at n2;exact ac3 n2
  have hr:=ET km;rw[mi]at hr;refine ag (cn (by rw[IV];exact km):dH ((a.length+1+t:Nat):Int) (lenOf (af ((kX a b t y).map de)).length 0 none)=some (a.length+1+t)) ?_
  refine ag hr ?_;have fc:=hb b[t] (Z0 ht);generalize hbt:b[t]=v at n1 fc;refine fe (args0:=[vY v,.rv (.one (.ptr 0 0))]) (cs:=[.val (.string name)]) 1 rfl rfl (r0:=ax (v.1.toList==name.toList)) rfl (fun K hK=>MH v name K hK) ?_
  refine bY (by simpa using fc) ?_
  refine ag (cn (by rw[IV,lH];omega):dH ((a.length+t:Nat):Int) (lenOf (af ((kX a b t y).map de)).length 0 none)=some (a.length+t)) ?_
  refine ag (ET (by rw[lH];omega):dd (af ((kX a b t y).map de)) (a.length+t)=_) ?_
  have jT:bb (af ((kX a b t y).map de)) (a.length+t) [.aa (.val (.string v.1)),.aa (.val (.int .i64 v.2))]=af ((kX a b (t+1) v).map de):=by rw[<-n1,bj,abJ];simp[af,abJ,de]
  have e1:=ap (k:=a.length+t) om;have e2:=ap (k:=a.length+1+t) om;refine⟨⟨t+1,v⟩,ht,(show b.length-(t+1)<b.length-t by omega),View.o 3 [0,1] [] ?_ ?_⟩
  .repeat(first|exact .nil|refine .aq ?_|refine .put (.aO e1.symm) ?_|refine .put (.aO e2.symm) ?_|refine .eq rfl ?_)
  .exact .pt rfl rfl (.bM jT) (.pt rfl rfl (.jn (ds:=[.val (.string name)]) rfl) (.nil _))
 .have h:¬((a.length+1+t:Nat):Int)<((lenOf (af ((kX a b t y).map de)).length 0 none:Nat):Int):=h;rw[IV,lH]at h;have ht:t=b.length:=om;subst ht;have Ya:(af ((kX a b b.length y).map de)).length=a.length+b.length+1:=by rw[<-lH];simp[af]
  have eA:cV (af ((kX a b b.length y).map de)) (a.length+b.length) [[.aa (.val (.string ⟨#[]⟩)),.aa (.val (.int .i64 0))]]=af ((a++b++ [Pm]).map de):=by
   have h1:af ((kX a b b.length y).map de)=af ((a++b).map de)++ [[.aa (.val (.string y.1)),.aa (.val (.int .i64 y.2))]]:=by simp[kX,af,de]
   have h2:(af ((a++b).map de)).length=a.length+b.length:=by simp[af]
   rw[h1,cV,List.take_left' h2,acQ (by rw[abO,h2];simp)]
   simp[af,de,Pm]
  generalize hX:af ((kX a b b.length y).map de)=X at Ya eA;have Yb:lenOf X.length 0 none=a.length+b.length+1:=Ya;refine bY (t:=(Nat.ble (a.length+b.length) (lenOf X.length 0 none)&&Nat.ble (lenOf X.length 0 none) (X.length-0))) (by rw[Yb,Ya];simp[abr]) ?_
  have Rd:cV X (a.length+b.length) (fT (lenOf X.length 0 none-(a.length+b.length)) [.aa (.val (.string ⟨#[]⟩)),.aa (.val (.int .i64 0))])=af ((a++b++ [Pm]).map de):=by
   rw[Yb,show a.length+b.length+1-(a.length+b.length)=1 by omega]
   exact eA
  refine bY (t:=Nat.ble (lenOf X.length 0 none) X.length) (by rw[Yb,Ya];simp[abr]) ?_
  refine bY (t:=Nat.blt (a.length+b.length) (lenOf X.length 0 none)) (by rw[Yb,abU];omega) ?_
  refine bY (t:=(Nat.ble 0 (a.length+b.length)&&Nat.ble (a.length+b.length) ((cV X (a.length+b.length) (fT (lenOf X.length 0 none-(a.length+b.length)) [.aa (.val (.string ⟨#[]⟩)),.aa (.val (.int .i64 0))])).length-0))) (by rw[Rd];simp[af,abr]) ?_
  exact⟨rfl,congrArg (fun z=>[Bk.row 2 z,MG name]) Rd⟩
theorem GX(a b:List NE)(x:NE)(hl:a.length+b.length<=4194303)(name:ByteArray)(hx:x.1.toList=name.toList)(ha:∀e,e∈a->e.1.toList≠name.toList)(hb:∀e,e∈b->e.1.toList≠name.toList){m:Mem}{K:CV->Mem->Prop}(i j:Nat)(qy:gu [i,j]=true)(aB:eO m.length [i,j]=true)(hi:dd m i=some (.row 2 (af ((a++x::b).map de))))(hj:dd m j=some (MG name))(h:K (.rv (.one (.row i 2 0 (some (a.length+b.length))))) (dp m [i,j] [.row 2 (af ((a++b++ [Pm]).map de)),MG name])):au Tryz.prog 116 [.rv (.one (.row i 2 0 none)),.rv (.one (.fn 117 [j]))] m K:=by
 refine bu [i,j] m.length rfl rfl qy aB (args0:=[.rv (.one (.row 0 2 0 none)),.rv (.one (.fn 117 [1]))]) rfl (m0:=[.row 2 (af ((a++x::b).map de)),MG name]) (fun k b' hk=>?_) (aX Tryz.func116 l116 (IX a b x hl name hx ha hb)) (fun r1 m1 hr=>?_)
 .match k,hk with
  |0,hk=>cases hk;exact .inr ⟨fun h=>h,_,by rw[aZ]at hi;exact hi,.bM rfl⟩
  |1,hk=>cases hk;exact .inr ⟨fun h=>h,_,by rw[aZ]at hj;exact hj,.jn (ds:=[.val (.string name)]) rfl⟩
  |n+2,hk=>simp at hk
 .obtain⟨rfl,rfl⟩:=hr;refine⟨aG,?_⟩;show K (.rv (.one (.row i 2 0 (some (a.length+b.length))))) (dp m [i,j] [.row 2 ((af ((a++b++ [Pm]).map de)).map (fun cs=>cs.map (CC.aO (sg [i,j] m.length)))),MG name])
  rw[gS];exact h
def l4(p:Nat)(c:CC)(k:Nat)(o:Obj):List CC:=[.aa (.val (.int .i64 o.ah)),.aa (.sl 1 o.data),(if k=p then c else .aa (.sl 2 o.ak)),.aa (.val (.string o.target)),.aa (.val (.int .i64 o.aD)),.aa (.sl 4 (o.aj.map bw.enc)),.aa (.val (.int .i64 o.aM)),.aa (.val (.int .i64 o.am)),.aa (.val (.int .i64 o.up))]
def bV(p:Nat)(c:CC)(l:List Obj):List (List CC):=(l.zipIdx.map fun x=>l4 p c x.2 x.1)
theorem fw(p:Nat)(c:CC)(l:List Obj)(i:Nat):(bV p c l)[i]? =(l[i]?).map (l4 p c i):=by
 simp only[bV,Q8,List.getElem?_zipIdx,abx];cases l[i]? <;>rfl
theorem hB(p:Nat)(c:CC)(l:List Obj):(bV p c l).length=l.length:=by simp[bV]
theorem GY(p Q:Nat)(l:List Obj):bT p Q 0 l=bV p (.row Q 2 0 none) l:=by apply abF;intro i;rw[fM,fw,abx];rfl
theorem hU{p:Nat}{c:CC}{l:List Obj}{k:Nat}{o:Obj}(hk:k<l.length):bb (bV p c l) k (l4 p c k o)=bV p c (l.set k o):=by
 rw[bj];apply abF;intro i;rw[fw];by_cases h:k=i
 .subst h;rw[Wl (by rw[hB];exact hk),Wl hk]
  rfl
 .rw[ZZ h,ZZ h,fw]
theorem EU{p:Nat}{c c':CC}{l:List Obj}{o:Obj}(hp:l[p]? =some o):bb (bV p c l) p (l4 p c' p o)=bV p c' l:=by
 have fW:=(Mh.1 hp).1;rw[bj];apply abF;intro i;rw[fw];by_cases h:p=i
 .subst h;rw[Wl (by rw[hB];exact fW),hp]
  rfl
 .rw[ZZ h,fw];cases l[i]? with
  |none=>rfl
  |some x=>
   have h2:¬i=p:=fun e=>h e.symm
   simp only[aaG,l4,if_neg h2]
theorem Co{m:Mem}{Z:Nat->Prop}{pp:Option Nat}{id p:Nat}{c:CC}{l:List Obj}{o:Obj}{E:List (List Dt)}(hz:Z id)(hm:m[id]? =some (.row 9 (bV p c l)))(hq:dC m Z (some id) c (.sl 2 E))(hp:l[p]? =some o):
  dC m Z pp (.row id 9 0 none) (cU (l.set p {o with ak:=E})):=by
 have fW:=(Mh.1 hp).1;have key:∀(i:Nat)cs es,(bV p c l)[i]? =some cs->((l.set p {o with ak:=E}).map Obj.enc)[i]? =some es->jL m Z (some id) cs es:=by
  intro i cs es h1 h2;rw[fw]at h1;rw[Q8]at h2;by_cases h:p=i
  .subst h;rw[Wl fW]at h2;rw[hp]at h1;cases h1;cases h2;simp only[l4,if_pos,Obj.enc];exact .cons (.aa _) (.cons (.aa _) (.cons hq (.cons (.aa _) (.cons (.aa _) (.cons (.aa _) (.cons (.aa _) (.cons (.aa _) (.cons (.aa _) .nil))))))))
  .rw[ZZ h]at h2;cases hx:l[i]? with
   |none=>rw[hx]at h1;cases h1
   |some x=>
    rw[hx]at h1 h2;cases h1;cases h2;have h3:¬i=p:=fun e=>h e.symm
    simp only[l4,if_neg h3,Obj.enc];exact .cons (.aa _) (.cons (.aa _) (.cons (.aa _) (.cons (.aa _) (.cons (.aa _) (.cons (.aa _) (.cons (.aa _) (.cons (.aa _) (.cons (.aa _) .nil))))))))
 exact dC.row id 9 0 none _ _ hz hm (by rw[hB,Nq,aaJ]) (fun i cs es h1 h2=>(key i cs es h1 h2).len) (fun i cs es j c d h1 h2 h3 h4=>(key i cs es h1 h2).get j c d h3 h4)
def kY(l:List Obj)(n k:Nat)(name:ByteArray):List Obj:=match l[n]? with
 |none=>l
 |some o=>match (l.set n {o with ak:=((o.ak.map nq).filter fun e=>decide (e.1.toList≠name.toList)).map eG})[k]? with
  |none=>l
  |some q=>(l.set n {o with ak:=((o.ak.map nq).filter fun e=>decide (e.1.toList≠name.toList)).map eG}).set k {q with am:=IntKind.i64.wrap (q.am-1),up:=if q.ah=2 then(k:Int)else q.up}
def wq(o:Obj)(l:List Obj)(n:Nat)(name:ByteArray):List Obj×Int×Int:=
 if o.ah≠2 then([],0,11)else if fE (o.ak.map nq) name<0 then([],0,6)else match l[(fE (o.ak.map nq) name).toNat]? with
  |none=>([],0,6)
  |some q=>if q.ah=2/\q.ak.length>0 then([],0,18)else(kY l n (fE (o.ak.map nq) name).toNat name,fE (o.ak.map nq) name,0)
def df(l:List Obj)(cT:Int)(name:ByteArray):List Obj×Int×Int:=
 if ph l cT 0=true then(match l[cT.toNat]? with
  |none=>([],0,6)
  |some o=>wq o l cT.toNat name)else([],0,6)
theorem jw{l:List Obj}{n k:Nat}(hn:n<l.length)(hk:k<l.length){name:ByteArray}{E:List (List Dt)}(hE:E=((l[n].ak.map nq).filter fun e=>decide (e.1.toList≠name.toList)).map eG){q:Obj}(hq:q={l[k]with am:=IntKind.i64.wrap (l[k].am-1),up:=if l[k].ah=2 then(k:Int)else l[k].up}):
  ∃o2,(l.set k q)[n]? =some o2/\(l.set k q).set n {o2 with ak:=E}=kY l n k name:=by
 subst hE;unfold kY;rw[IE hn];simp only[];by_cases h:k=n
 .subst h;rw[Wl hn,Wl hn];refine⟨_,rfl,?_⟩;simp only[acq];subst hq;rfl
 .rw[ZZ h,IE hn,ZZ (fun e=>h e.symm),IE hk]
  refine⟨_,rfl,?_⟩;simp only[];rw[List.set_comm _ _ h,<-hq]
theorem IY{es:List NE}(hs:Ea es){name:ByteArray}(h:¬fE es name<0)(dz:∀e,e∈es->0<=e.2):∃a x b,es=a++x::b/\x.1.toList=name.toList/\x.2=fE es name/\(∀e,e∈a->e.1.toList≠name.toList)/\(∀e,e∈b->e.1.toList≠name.toList)/\es.filter (fun e=>decide (e.1.toList≠name.toList))=a++b:=by
 rcases jo es name with⟨x,hx,h1,h2⟩|⟨h2,_⟩
 .obtain⟨a,b,rfl⟩:=List.append_of_mem hx;have hu:∀y,y∈a++x::b->y.1.toList=name.toList->y=x:=fun y hy he=>vF hs hy hx (he.trans h1.symm)
  have hp:=hs;unfold Ea at hp;rw[List.pairwise_append,acw]at hp;have hna:∀e,e∈a->e.1.toList≠name.toList:=fun e he h3=>by have:=hp.2.2 e he x aG;rw[zI,h3,<-h1,oa]at this;cases this
  have hnb:∀e,e∈b->e.1.toList≠name.toList:=fun e he h3=>by have:=hp.2.1.1 e he;rw[zI,h3,<-h1,oa]at this;cases this
  refine⟨a,x,b,rfl,h1,h2.symm,hna,hnb,?_⟩;rw[ac9,adk,if_neg (by simpa using h1),ac4.2 (fun e he=>by simpa using hna e he),ac4.2 (fun e he=>by simpa using hnb e he)]
 .rw[h2]at h;omega
def S3(R:List Obj×Int×Int)(r:CV)(m:Mem):Prop:=∃r' m',View 0 ⟨[r],m⟩ ⟨[r'],m'⟩/\r'= .bK [mB R.1,cS R.2.1,cS R.2.2]/\m'=[]
theorem mI{R:List Obj×Int×Int}{m:Mem}(e:Int)(h:R=([],0,e)):S3 R (.bK [.one .aI,cS 0,cS e]) m:=by subst h;exact⟨_,_,View.of m.length [] [] rfl rfl rfl rfl rfl rfl (.put (Wu (.one (.e8 (.aI 9))) (.one (.aO (.aa _))) (.one (.aO (.aa _)))) .nil) (.nil _),rfl,rfl⟩
theorem Aj(l:List Obj)(hs:wo l)(cT:Int)(name:ByteArray):body Tryz.prog c75 [b8 l,an .i64 cT,eK name] [] (S3 (df l cT name)):=by
 refine ay (fun h1=>?_) (fun h1=>?_)
 .exact mI 6 (by unfold df;rw[wi h1];rfl)
 obtain⟨n,rfl⟩:∃n:Nat,cT=n:=⟨cT.toNat,by have h1:¬cT<0:=h1;omega⟩
 refine ay (fun h2=>?_) (fun h2=>?_)
 .have h2:(n:Int)>=((l.map Obj.enc).length:Int):=h2;rw[Nq]at h2;exact mI 6 (by unfold df;rw[wj h2];rfl)
 have h2:¬(n:Int)>=((l.map Obj.enc).length:Int):=h2;rw[Nq]at h2;have hn:n<l.length:=om;have NZ:=iz hn;refine ag NZ ?_;refine bI (fun h3=>?_) (fun h3=>?_)
 .exact mI 6 (by unfold df;rw[wm hn h3];rfl)
 have h3:l[n].ah≠0:=h3;have hR:df l n name=wq l[n] l n name:=by unfold df;rw[if_pos (wn hn h3),Z3,IE hn]
 rw[hR];unfold wq;refine ag NZ ?_;refine bG (fun h7=>?_) (fun h7=>?_)
 .exact mI 11 (if_pos h7)
 have h7:l[n].ah=2:=by simpa using h7
 rw[if_neg (by rw[h7];simp)]
 obtain⟨es,he,Ag,Pl,dz⟩:=hs.en _ (Z0 hn);have Rc:l[n].ak.map nq=es:=by rw[he,mW]
 refine Cf l n hn h7 es he om name ?_;have X8:wd l es n name=fE es name:=yC Ag name;rw[X8,Rc];refine ay (fun h9=>?_) (fun h9=>?_)
 .exact mI 6 (if_pos h9)
 have h9:¬fE es name<0:=h9;rw[if_neg h9];obtain⟨a,x,b,Dd,hx,XG,ha,hb,aac⟩:=IY Ag h9 fun e he=>(dz e he).1
 have hxr:=dz x (by rw[Dd];simp)
 obtain⟨k,hk⟩:∃k:Nat,fE es name=k:=⟨(fE es name).toNat,om⟩;have fj:k<l.length:=om;have SO:=iz fj;rw[hk,Z3,IE fj];simp only[];have Wx:a.length+b.length<=4194303:=by rw[Dd]at Pl;simp at Pl;omega
 have nA:∀c,dd (bV n c l) n=some [.aa (.val (.int .i64 l[n].ah)),.aa (.sl 1 l[n].data),c,.aa (.val (.string l[n].target)),.aa (.val (.int .i64 l[n].aD)),.aa (.sl 4 (l[n].aj.map bw.enc)),.aa (.val (.int .i64 l[n].aM)),.aa (.val (.int .i64 l[n].am)),.aa (.val (.int .i64 l[n].up))]:=fun c=>by rw[aZ,fw,IE hn,aaG,l4,if_pos rfl]
 have X9:Ae l n l.length= .row 2 (af ((a++x::b).map de)):=by
  unfold Ae;rw[show Nat.blt n l.length=true by simpa using hn]
  show Bk.row 2 (af (match l[n]? with|some o=>o.ak|none=>[]))=_
  rw[IE hn];show Bk.row 2 (af l[n].ak)=_;rw[he,Dd];rfl
 have eC:∀(c:CC)(l2:List Obj)(j:Nat),l2.length=l.length->j<l.length->dH (j:Nat) (lenOf (bV n c l2).length 0 none)=some j:=fun c l2 j h hj=>cn (by rw[show lenOf (bV n c l2).length 0 none=l2.length from hB n c l2,h];exact hj)
 have IT:((a++b).map de)=((l[n].ak.map nq).filter fun e=>decide (e.1.toList≠name.toList)).map eG:=by rw[Rc,aac];rfl
 have i4:∀L2:List Obj,L2=kY l n k name->aw Tryz.prog 0 G88 (mg Tryz.prog c75.kD (S3 (kY l n k name,(k:Int),0))) ⟨iL 90 [(9,an .i64 (k:Nat)),(10,b8 L2)],[]⟩:=fun L2 h=>by subst h;exact⟨_,_,View.o 0 [] [] (.eq rfl .nil) (.nil _),rfl,rfl⟩
 have mR:(bb (bV n (.row 2 2 0 none) l) n [.aa (.val (.int .i64 l[n].ah)),.aa (.sl 1 l[n].data),.row 2 2 0 (some (a.length+b.length)),.aa (.val (.string l[n].target)),.aa (.val (.int .i64 l[n].aD)),.aa (.sl 4 (l[n].aj.map bw.enc)),.aa (.val (.int .i64 l[n].aM)),.aa (.val (.int .i64 l[n].am)),.aa (.val (.int .i64 l[n].up))])=bV n (.row 2 2 0 (some (a.length+b.length))) l:=by have:=EU (p:=n) (c:= .row 2 2 0 none) (c':= .row 2 2 0 (some (a.length+b.length))) (IE hn);rw[<-this,l4,if_pos rfl]
 have r8:cD ((a++b++ [Pm]).map de) 0 (some (a.length+b.length))=(a++b).map de:=by show((a++b++ [Pm]).map de).take (a.length+b.length)=_;rw[abn,List.take_left' aG]
 have hq:∀m:Mem,m[2]? =some (.row 2 (af ((a++b++ [Pm]).map de)))->dC m (fun k=>bz [1,2] k=true) (some 1) (.row 2 2 0 (some (a.length+b.length))) (.sl 2 ((a++b).map de)):=fun m hm=>by
  have:=dC.dJ (Z:=fun k=>bz [1,2] k=true) (p:=some 1) rfl hm 0 (some (a.length+b.length))
  rw[r8]at this;exact this
 refine ag SO ?_;refine bI (fun x4=>?_) (fun x4=>?_)
 .refine ag SO ?_;refine ay (fun mX=>?_) (fun mX=>?_)
  .exact mI 18 (if_pos ⟨x4,by have mX:(l[k].ak.length:Int)>0:=mX;omega⟩)
  .rw[if_neg (fun h=>mX (by show(l[k].ak.length:Int)>0;omega))]
   refine Af l hs.mL n ?_;rw[X9,GY];refine ag (eC (.row 2 2 0 none) l n rfl hn) ?_;refine ag (nA (.row 2 2 0 none)) ?_;refine GX a b x Wx name hx ha hb 2 0 rfl rfl rfl rfl ?_;refine ag (eC (.row 2 2 0 none) l n rfl hn) ?_;refine ag (nA (.row 2 2 0 none)) ?_;by_cases IZ:k=n
   .have MJ:dd (bV n (.row 2 2 0 (some (a.length+b.length))) l) k=some [.aa (.val (.int .i64 l[k].ah)),.aa (.sl 1 l[k].data),.row 2 2 0 (some (a.length+b.length)),.aa (.val (.string l[k].target)),.aa (.val (.int .i64 l[k].aD)),.aa (.sl 4 (l[k].aj.map bw.enc)),.aa (.val (.int .i64 l[k].aM)),.aa (.val (.int .i64 l[k].am)),.aa (.val (.int .i64 l[k].up))]:=by rw[aZ,fw,IE fj,aaG,l4,if_pos IZ]
    have n9:(bb (bb (bV n (.row 2 2 0 none) l) n [.aa (.val (.int .i64 l[n].ah)),.aa (.sl 1 l[n].data),.row 2 2 0 (some (a.length+b.length)),.aa (.val (.string l[n].target)),.aa (.val (.int .i64 l[n].aD)),.aa (.sl 4 (l[n].aj.map bw.enc)),.aa (.val (.int .i64 l[n].aM)),.aa (.val (.int .i64 l[n].am)),.aa (.val (.int .i64 l[n].up))]) k [.aa (.val (.int .i64 l[k].ah)),.aa (.sl 1 l[k].data),.row 2 2 0 (some (a.length+b.length)),.aa (.val (.string l[k].target)),.aa (.val (.int .i64 l[k].aD)),.aa (.sl 4 (l[k].aj.map bw.enc)),.aa (.val (.int .i64 l[k].aM)),.aa (.val (.int .i64 (IntKind.i64.wrap (l[k].am-1)))),.aa (.val (.int .i64 l[k].up))])=bV n (.row 2 2 0 (some (a.length+b.length))) (l.set k {l[k]with am:=(IntKind.i64.wrap (l[k].am-1))}):=by
     rw[mR];have:=hU (p:=n) (c:= .row 2 2 0 (some (a.length+b.length))) (o:={l[k]with am:=(IntKind.i64.wrap (l[k].am-1))}) fj
     rw[<-this,l4,if_pos IZ]
    have uo:dd (bb (bb (bV n (.row 2 2 0 none) l) n [.aa (.val (.int .i64 l[n].ah)),.aa (.sl 1 l[n].data),.row 2 2 0 (some (a.length+b.length)),.aa (.val (.string l[n].target)),.aa (.val (.int .i64 l[n].aD)),.aa (.sl 4 (l[n].aj.map bw.enc)),.aa (.val (.int .i64 l[n].aM)),.aa (.val (.int .i64 l[n].am)),.aa (.val (.int .i64 l[n].up))]) k [.aa (.val (.int .i64 l[k].ah)),.aa (.sl 1 l[k].data),.row 2 2 0 (some (a.length+b.length)),.aa (.val (.string l[k].target)),.aa (.val (.int .i64 l[k].aD)),.aa (.sl 4 (l[k].aj.map bw.enc)),.aa (.val (.int .i64 l[k].aM)),.aa (.val (.int .i64 (IntKind.i64.wrap (l[k].am-1)))),.aa (.val (.int .i64 l[k].up))]) k=some [.aa (.val (.int .i64 l[k].ah)),.aa (.sl 1 l[k].data),.row 2 2 0 (some (a.length+b.length)),.aa (.val (.string l[k].target)),.aa (.val (.int .i64 l[k].aD)),.aa (.sl 4 (l[k].aj.map bw.enc)),.aa (.val (.int .i64 l[k].aM)),.aa (.val (.int .i64 (IntKind.i64.wrap (l[k].am-1)))),.aa (.val (.int .i64 l[k].up))]:=by
     rw[bj,aZ,Wl (by rw[mR,hB];exact fj)]
    refine ag (by rw[mR];exact eC _ l k rfl fj:dH (k:Nat) (lenOf (bb (bV n (.row 2 2 0 none) l) n [.aa (.val (.int .i64 l[n].ah)),.aa (.sl 1 l[n].data),.row 2 2 0 (some (a.length+b.length)),.aa (.val (.string l[n].target)),.aa (.val (.int .i64 l[n].aD)),.aa (.sl 4 (l[n].aj.map bw.enc)),.aa (.val (.int .i64 l[n].aM)),.aa (.val (.int .i64 l[n].am)),.aa (.val (.int .i64 l[n].up))]).length 0 none)=some k) ?_
    refine ag (by rw[mR];exact MJ:dd (bb (bV n (.row 2 2 0 none) l) n [.aa (.val (.int .i64 l[n].ah)),.aa (.sl 1 l[n].data),.row 2 2 0 (some (a.length+b.length)),.aa (.val (.string l[n].target)),.aa (.val (.int .i64 l[n].aD)),.aa (.sl 4 (l[n].aj.map bw.enc)),.aa (.val (.int .i64 l[n].aM)),.aa (.val (.int .i64 l[n].am)),.aa (.val (.int .i64 l[n].up))]) k=some [.aa (.val (.int .i64 l[k].ah)),.aa (.sl 1 l[k].data),.row 2 2 0 (some (a.length+b.length)),.aa (.val (.string l[k].target)),.aa (.val (.int .i64 l[k].aD)),.aa (.sl 4 (l[k].aj.map bw.enc)),.aa (.val (.int .i64 l[k].aM)),.aa (.val (.int .i64 l[k].am)),.aa (.val (.int .i64 l[k].up))]) ?_
    refine ag (by rw[mR];exact eC _ l k rfl fj:dH (k:Nat) (lenOf (bb (bV n (.row 2 2 0 none) l) n [.aa (.val (.int .i64 l[n].ah)),.aa (.sl 1 l[n].data),.row 2 2 0 (some (a.length+b.length)),.aa (.val (.string l[n].target)),.aa (.val (.int .i64 l[n].aD)),.aa (.sl 4 (l[n].aj.map bw.enc)),.aa (.val (.int .i64 l[n].aM)),.aa (.val (.int .i64 l[n].am)),.aa (.val (.int .i64 l[n].up))]).length 0 none)=some k) ?_
    refine ag (by rw[mR];exact MJ:dd (bb (bV n (.row 2 2 0 none) l) n [.aa (.val (.int .i64 l[n].ah)),.aa (.sl 1 l[n].data),.row 2 2 0 (some (a.length+b.length)),.aa (.val (.string l[n].target)),.aa (.val (.int .i64 l[n].aD)),.aa (.sl 4 (l[n].aj.map bw.enc)),.aa (.val (.int .i64 l[n].aM)),.aa (.val (.int .i64 l[n].am)),.aa (.val (.int .i64 l[n].up))]) k=some [.aa (.val (.int .i64 l[k].ah)),.aa (.sl 1 l[k].data),.row 2 2 0 (some (a.length+b.length)),.aa (.val (.string l[k].target)),.aa (.val (.int .i64 l[k].aD)),.aa (.sl 4 (l[k].aj.map bw.enc)),.aa (.val (.int .i64 l[k].aM)),.aa (.val (.int .i64 l[k].am)),.aa (.val (.int .i64 l[k].up))]) ?_
    refine ag (by rw[n9];exact eC _ _ k (aaJ ..) fj:dH (k:Nat) (lenOf (bb (bb (bV n (.row 2 2 0 none) l) n [.aa (.val (.int .i64 l[n].ah)),.aa (.sl 1 l[n].data),.row 2 2 0 (some (a.length+b.length)),.aa (.val (.string l[n].target)),.aa (.val (.int .i64 l[n].aD)),.aa (.sl 4 (l[n].aj.map bw.enc)),.aa (.val (.int .i64 l[n].aM)),.aa (.val (.int .i64 l[n].am)),.aa (.val (.int .i64 l[n].up))]) k [.aa (.val (.int .i64 l[k].ah)),.aa (.sl 1 l[k].data),.row 2 2 0 (some (a.length+b.length)),.aa (.val (.string l[k].target)),.aa (.val (.int .i64 l[k].aD)),.aa (.sl 4 (l[k].aj.map bw.enc)),.aa (.val (.int .i64 l[k].aM)),.aa (.val (.int .i64 (IntKind.i64.wrap (l[k].am-1)))),.aa (.val (.int .i64 l[k].up))]).length 0 none)=some k) ?_
    refine ag uo ?_;refine bI (fun p9=>?_) (fun p9=>?_)
    .have p9:l[k].ah=2:=p9;have MF:(bb (bb (bb (bV n (.row 2 2 0 none) l) n [.aa (.val (.int .i64 l[n].ah)),.aa (.sl 1 l[n].data),.row 2 2 0 (some (a.length+b.length)),.aa (.val (.string l[n].target)),.aa (.val (.int .i64 l[n].aD)),.aa (.sl 4 (l[n].aj.map bw.enc)),.aa (.val (.int .i64 l[n].aM)),.aa (.val (.int .i64 l[n].am)),.aa (.val (.int .i64 l[n].up))]) k [.aa (.val (.int .i64 l[k].ah)),.aa (.sl 1 l[k].data),.row 2 2 0 (some (a.length+b.length)),.aa (.val (.string l[k].target)),.aa (.val (.int .i64 l[k].aD)),.aa (.sl 4 (l[k].aj.map bw.enc)),.aa (.val (.int .i64 l[k].aM)),.aa (.val (.int .i64 (IntKind.i64.wrap (l[k].am-1)))),.aa (.val (.int .i64 l[k].up))]) k [.aa (.val (.int .i64 l[k].ah)),.aa (.sl 1 l[k].data),.row 2 2 0 (some (a.length+b.length)),.aa (.val (.string l[k].target)),.aa (.val (.int .i64 l[k].aD)),.aa (.sl 4 (l[k].aj.map bw.enc)),.aa (.val (.int .i64 l[k].aM)),.aa (.val (.int .i64 (IntKind.i64.wrap (l[k].am-1)))),.aa (.val (.int .i64 (k:Nat)))])=bV n (.row 2 2 0 (some (a.length+b.length))) (l.set k {l[k]with am:=(IntKind.i64.wrap (l[k].am-1)),up:=(k:Int)}):=by
      rw[n9];have:=hU (p:=n) (c:= .row 2 2 0 (some (a.length+b.length))) (l:=l.set k {l[k]with am:=(IntKind.i64.wrap (l[k].am-1))}) (k:=k) (o:={l[k]with am:=(IntKind.i64.wrap (l[k].am-1)),up:=(k:Int)}) (by rw[aaJ];exact fj)
      rw[acq]at this;rw[<-this,l4,if_pos IZ]
     refine ag (by rw[n9];exact eC _ _ k (aaJ ..) fj:dH (k:Nat) (lenOf (bb (bb (bV n (.row 2 2 0 none) l) n [.aa (.val (.int .i64 l[n].ah)),.aa (.sl 1 l[n].data),.row 2 2 0 (some (a.length+b.length)),.aa (.val (.string l[n].target)),.aa (.val (.int .i64 l[n].aD)),.aa (.sl 4 (l[n].aj.map bw.enc)),.aa (.val (.int .i64 l[n].aM)),.aa (.val (.int .i64 l[n].am)),.aa (.val (.int .i64 l[n].up))]) k [.aa (.val (.int .i64 l[k].ah)),.aa (.sl 1 l[k].data),.row 2 2 0 (some (a.length+b.length)),.aa (.val (.string l[k].target)),.aa (.val (.int .i64 l[k].aD)),.aa (.sl 4 (l[k].aj.map bw.enc)),.aa (.val (.int .i64 l[k].aM)),.aa (.val (.int .i64 (IntKind.i64.wrap (l[k].am-1)))),.aa (.val (.int .i64 l[k].up))]).length 0 none)=some k) ?_
     refine ag uo ?_;obtain⟨o2,oV,eA⟩:=jw (name:=name) hn fj IT (q:={l[k]with am:=(IntKind.i64.wrap (l[k].am-1)),up:=(k:Int)}) (by rw[if_pos p9])
     refine⟨_,View.o 3 [] [1,2] ?_ (.nil _),i4 _ eA⟩
     iterate 9 refine .aq ?_
     refine .eq rfl ?_;refine .put (.rv (.one (.e8 (p:=none) (Co (Z:=fun k=>bz [1,2] k=true) rfl (by show some (Bk.row 9 _)=some (Bk.row 9 _);congr 1;exact congrArg _ MF) (hq _ rfl) oV)))) ?_
     repeat(first|exact .nil|refine .aq ?_)
    .have p9:l[k].ah≠2:=p9;obtain⟨o2,oV,eA⟩:=jw (name:=name) hn fj IT (q:={l[k]with am:=(IntKind.i64.wrap (l[k].am-1))}) (by rw[if_neg p9])
     refine⟨_,View.o 3 [] [1,2] ?_ (.nil _),i4 _ eA⟩
     iterate 9 refine .aq ?_
     refine .eq rfl ?_;refine .put (.rv (.one (.e8 (p:=none) (Co (Z:=fun k=>bz [1,2] k=true) rfl (by show some (Bk.row 9 _)=some (Bk.row 9 _);congr 1;exact congrArg _ n9) (hq _ rfl) oV)))) ?_
     repeat(first|exact .nil|refine .aq ?_)
   .have MJ:dd (bV n (.row 2 2 0 (some (a.length+b.length))) l) k=some [.aa (.val (.int .i64 l[k].ah)),.aa (.sl 1 l[k].data),.aa (.sl 2 l[k].ak),.aa (.val (.string l[k].target)),.aa (.val (.int .i64 l[k].aD)),.aa (.sl 4 (l[k].aj.map bw.enc)),.aa (.val (.int .i64 l[k].aM)),.aa (.val (.int .i64 l[k].am)),.aa (.val (.int .i64 l[k].up))]:=by rw[aZ,fw,IE fj,aaG,l4,if_neg IZ]
    have n9:(bb (bb (bV n (.row 2 2 0 none) l) n [.aa (.val (.int .i64 l[n].ah)),.aa (.sl 1 l[n].data),.row 2 2 0 (some (a.length+b.length)),.aa (.val (.string l[n].target)),.aa (.val (.int .i64 l[n].aD)),.aa (.sl 4 (l[n].aj.map bw.enc)),.aa (.val (.int .i64 l[n].aM)),.aa (.val (.int .i64 l[n].am)),.aa (.val (.int .i64 l[n].up))]) k [.aa (.val (.int .i64 l[k].ah)),.aa (.sl 1 l[k].data),.aa (.sl 2 l[k].ak),.aa (.val (.string l[k].target)),.aa (.val (.int .i64 l[k].aD)),.aa (.sl 4 (l[k].aj.map bw.enc)),.aa (.val (.int .i64 l[k].aM)),.aa (.val (.int .i64 (IntKind.i64.wrap (l[k].am-1)))),.aa (.val (.int .i64 l[k].up))])=bV n (.row 2 2 0 (some (a.length+b.length))) (l.set k {l[k]with am:=(IntKind.i64.wrap (l[k].am-1))}):=by
     rw[mR];have:=hU (p:=n) (c:= .row 2 2 0 (some (a.length+b.length))) (o:={l[k]with am:=(IntKind.i64.wrap (l[k].am-1))}) fj
     rw[<-this,l4,if_neg IZ]
    have uo:dd (bb (bb (bV n (.row 2 2 0 none) l) n [.aa (.val (.int .i64 l[n].ah)),.aa (.sl 1 l[n].data),.row 2 2 0 (some (a.length+b.length)),.aa (.val (.string l[n].target)),.aa (.val (.int .i64 l[n].aD)),.aa (.sl 4 (l[n].aj.map bw.enc)),.aa (.val (.int .i64 l[n].aM)),.aa (.val (.int .i64 l[n].am)),.aa (.val (.int .i64 l[n].up))]) k [.aa (.val (.int .i64 l[k].ah)),.aa (.sl 1 l[k].data),.aa (.sl 2 l[k].ak),.aa (.val (.string l[k].target)),.aa (.val (.int .i64 l[k].aD)),.aa (.sl 4 (l[k].aj.map bw.enc)),.aa (.val (.int .i64 l[k].aM)),.aa (.val (.int .i64 (IntKind.i64.wrap (l[k].am-1)))),.aa (.val (.int .i64 l[k].up))]) k=some [.aa (.val (.int .i64 l[k].ah)),.aa (.sl 1 l[k].data),.aa (.sl 2 l[k].ak),.aa (.val (.string l[k].target)),.aa (.val (.int .i64 l[k].aD)),.aa (.sl 4 (l[k].aj.map bw.enc)),.aa (.val (.int .i64 l[k].aM)),.aa (.val (.int .i64 (IntKind.i64.wrap (l[k].am-1)))),.aa (.val (.int .i64 l[k].up))]:=by
     rw[bj,aZ,Wl (by rw[mR,hB];exact fj)]
    refine ag (by rw[mR];exact eC _ l k rfl fj:dH (k:Nat) (lenOf (bb (bV n (.row 2 2 0 none) l) n [.aa (.val (.int .i64 l[n].ah)),.aa (.sl 1 l[n].data),.row 2 2 0 (some (a.length+b.length)),.aa (.val (.string l[n].target)),.aa (.val (.int .i64 l[n].aD)),.aa (.sl 4 (l[n].aj.map bw.enc)),.aa (.val (.int .i64 l[n].aM)),.aa (.val (.int .i64 l[n].am)),.aa (.val (.int .i64 l[n].up))]).length 0 none)=some k) ?_
    refine ag (by rw[mR];exact MJ:dd (bb (bV n (.row 2 2 0 none) l) n [.aa (.val (.int .i64 l[n].ah)),.aa (.sl 1 l[n].data),.row 2 2 0 (some (a.length+b.length)),.aa (.val (.string l[n].target)),.aa (.val (.int .i64 l[n].aD)),.aa (.sl 4 (l[n].aj.map bw.enc)),.aa (.val (.int .i64 l[n].aM)),.aa (.val (.int .i64 l[n].am)),.aa (.val (.int .i64 l[n].up))]) k=some [.aa (.val (.int .i64 l[k].ah)),.aa (.sl 1 l[k].data),.aa (.sl 2 l[k].ak),.aa (.val (.string l[k].target)),.aa (.val (.int .i64 l[k].aD)),.aa (.sl 4 (l[k].aj.map bw.enc)),.aa (.val (.int .i64 l[k].aM)),.aa (.val (.int .i64 l[k].am)),.aa (.val (.int .i64 l[k].up))]) ?_
    refine ag (by rw[mR];exact eC _ l k rfl fj:dH (k:Nat) (lenOf (bb (bV n (.row 2 2 0 none) l) n [.aa (.val (.int .i64 l[n].ah)),.aa (.sl 1 l[n].data),.row 2 2 0 (some (a.length+b.length)),.aa (.val (.string l[n].target)),.aa (.val (.int .i64 l[n].aD)),.aa (.sl 4 (l[n].aj.map bw.enc)),.aa (.val (.int .i64 l[n].aM)),.aa (.val (.int .i64 l[n].am)),.aa (.val (.int .i64 l[n].up))]).length 0 none)=some k) ?_
    refine ag (by rw[mR];exact MJ:dd (bb (bV n (.row 2 2 0 none) l) n [.aa (.val (.int .i64 l[n].ah)),.aa (.sl 1 l[n].data),.row 2 2 0 (some (a.length+b.length)),.aa (.val (.string l[n].target)),.aa (.val (.int .i64 l[n].aD)),.aa (.sl 4 (l[n].aj.map bw.enc)),.aa (.val (.int .i64 l[n].aM)),.aa (.val (.int .i64 l[n].am)),.aa (.val (.int .i64 l[n].up))]) k=some [.aa (.val (.int .i64 l[k].ah)),.aa (.sl 1 l[k].data),.aa (.sl 2 l[k].ak),.aa (.val (.string l[k].target)),.aa (.val (.int .i64 l[k].aD)),.aa (.sl 4 (l[k].aj.map bw.enc)),.aa (.val (.int .i64 l[k].aM)),.aa (.val (.int .i64 l[k].am)),.aa (.val (.int .i64 l[k].up))]) ?_
    refine ag (by rw[n9];exact eC _ _ k (aaJ ..) fj:dH (k:Nat) (lenOf (bb (bb (bV n (.row 2 2 0 none) l) n [.aa (.val (.int .i64 l[n].ah)),.aa (.sl 1 l[n].data),.row 2 2 0 (some (a.length+b.length)),.aa (.val (.string l[n].target)),.aa (.val (.int .i64 l[n].aD)),.aa (.sl 4 (l[n].aj.map bw.enc)),.aa (.val (.int .i64 l[n].aM)),.aa (.val (.int .i64 l[n].am)),.aa (.val (.int .i64 l[n].up))]) k [.aa (.val (.int .i64 l[k].ah)),.aa (.sl 1 l[k].data),.aa (.sl 2 l[k].ak),.aa (.val (.string l[k].target)),.aa (.val (.int .i64 l[k].aD)),.aa (.sl 4 (l[k].aj.map bw.enc)),.aa (.val (.int .i64 l[k].aM)),.aa (.val (.int .i64 (IntKind.i64.wrap (l[k].am-1)))),.aa (.val (.int .i64 l[k].up))]).length 0 none)=some k) ?_
    refine ag uo ?_;refine bI (fun p9=>?_) (fun p9=>?_)
    .have p9:l[k].ah=2:=p9;have MF:(bb (bb (bb (bV n (.row 2 2 0 none) l) n [.aa (.val (.int .i64 l[n].ah)),.aa (.sl 1 l[n].data),.row 2 2 0 (some (a.length+b.length)),.aa (.val (.string l[n].target)),.aa (.val (.int .i64 l[n].aD)),.aa (.sl 4 (l[n].aj.map bw.enc)),.aa (.val (.int .i64 l[n].aM)),.aa (.val (.int .i64 l[n].am)),.aa (.val (.int .i64 l[n].up))]) k [.aa (.val (.int .i64 l[k].ah)),.aa (.sl 1 l[k].data),.aa (.sl 2 l[k].ak),.aa (.val (.string l[k].target)),.aa (.val (.int .i64 l[k].aD)),.aa (.sl 4 (l[k].aj.map bw.enc)),.aa (.val (.int .i64 l[k].aM)),.aa (.val (.int .i64 (IntKind.i64.wrap (l[k].am-1)))),.aa (.val (.int .i64 l[k].up))]) k [.aa (.val (.int .i64 l[k].ah)),.aa (.sl 1 l[k].data),.aa (.sl 2 l[k].ak),.aa (.val (.string l[k].target)),.aa (.val (.int .i64 l[k].aD)),.aa (.sl 4 (l[k].aj.map bw.enc)),.aa (.val (.int .i64 l[k].aM)),.aa (.val (.int .i64 (IntKind.i64.wrap (l[k].am-1)))),.aa (.val (.int .i64 (k:Nat)))])=bV n (.row 2 2 0 (some (a.length+b.length))) (l.set k {l[k]with am:=(IntKind.i64.wrap (l[k].am-1)),up:=(k:Int)}):=by
      rw[n9];have:=hU (p:=n) (c:= .row 2 2 0 (some (a.length+b.length))) (l:=l.set k {l[k]with am:=(IntKind.i64.wrap (l[k].am-1))}) (k:=k) (o:={l[k]with am:=(IntKind.i64.wrap (l[k].am-1)),up:=(k:Int)}) (by rw[aaJ];exact fj)
      rw[acq]at this;rw[<-this,l4,if_neg IZ]
     refine ag (by rw[n9];exact eC _ _ k (aaJ ..) fj:dH (k:Nat) (lenOf (bb (bb (bV n (.row 2 2 0 none) l) n [.aa (.val (.int .i64 l[n].ah)),.aa (.sl 1 l[n].data),.row 2 2 0 (some (a.length+b.length)),.aa (.val (.string l[n].target)),.aa (.val (.int .i64 l[n].aD)),.aa (.sl 4 (l[n].aj.map bw.enc)),.aa (.val (.int .i64 l[n].aM)),.aa (.val (.int .i64 l[n].am)),.aa (.val (.int .i64 l[n].up))]) k [.aa (.val (.int .i64 l[k].ah)),.aa (.sl 1 l[k].data),.aa (.sl 2 l[k].ak),.aa (.val (.string l[k].target)),.aa (.val (.int .i64 l[k].aD)),.aa (.sl 4 (l[k].aj.map bw.enc)),.aa (.val (.int .i64 l[k].aM)),.aa (.val (.int .i64 (IntKind.i64.wrap (l[k].am-1)))),.aa (.val (.int .i64 l[k].up))]).length 0 none)=some k) ?_
     refine ag uo ?_;obtain⟨o2,oV,eA⟩:=jw (name:=name) hn fj IT (q:={l[k]with am:=(IntKind.i64.wrap (l[k].am-1)),up:=(k:Int)}) (by rw[if_pos p9])
     refine⟨_,View.o 3 [] [1,2] ?_ (.nil _),i4 _ eA⟩
     iterate 9 refine .aq ?_
     refine .eq rfl ?_;refine .put (.rv (.one (.e8 (p:=none) (Co (Z:=fun k=>bz [1,2] k=true) rfl (by show some (Bk.row 9 _)=some (Bk.row 9 _);congr 1;exact congrArg _ MF) (hq _ rfl) oV)))) ?_
     repeat(first|exact .nil|refine .aq ?_)
    .have p9:l[k].ah≠2:=p9;obtain⟨o2,oV,eA⟩:=jw (name:=name) hn fj IT (q:={l[k]with am:=(IntKind.i64.wrap (l[k].am-1))}) (by rw[if_neg p9])
     refine⟨_,View.o 3 [] [1,2] ?_ (.nil _),i4 _ eA⟩
     iterate 9 refine .aq ?_
     refine .eq rfl ?_;refine .put (.rv (.one (.e8 (p:=none) (Co (Z:=fun k=>bz [1,2] k=true) rfl (by show some (Bk.row 9 _)=some (Bk.row 9 _);congr 1;exact congrArg _ n9) (hq _ rfl) oV)))) ?_
     repeat(first|exact .nil|refine .aq ?_)
 .rw[if_neg (fun h=>x4 h.1)]
  refine Af l hs.mL n ?_;rw[X9,GY];refine ag (eC (.row 2 2 0 none) l n rfl hn) ?_;refine ag (nA (.row 2 2 0 none)) ?_;refine GX a b x Wx name hx ha hb 2 0 rfl rfl rfl rfl ?_;refine ag (eC (.row 2 2 0 none) l n rfl hn) ?_;refine ag (nA (.row 2 2 0 none)) ?_;by_cases IZ:k=n
  .have MJ:dd (bV n (.row 2 2 0 (some (a.length+b.length))) l) k=some [.aa (.val (.int .i64 l[k].ah)),.aa (.sl 1 l[k].data),.row 2 2 0 (some (a.length+b.length)),.aa (.val (.string l[k].target)),.aa (.val (.int .i64 l[k].aD)),.aa (.sl 4 (l[k].aj.map bw.enc)),.aa (.val (.int .i64 l[k].aM)),.aa (.val (.int .i64 l[k].am)),.aa (.val (.int .i64 l[k].up))]:=by rw[aZ,fw,IE fj,aaG,l4,if_pos IZ]
   have n9:(bb (bb (bV n (.row 2 2 0 none) l) n [.aa (.val (.int .i64 l[n].ah)),.aa (.sl 1 l[n].data),.row 2 2 0 (some (a.length+b.length)),.aa (.val (.string l[n].target)),.aa (.val (.int .i64 l[n].aD)),.aa (.sl 4 (l[n].aj.map bw.enc)),.aa (.val (.int .i64 l[n].aM)),.aa (.val (.int .i64 l[n].am)),.aa (.val (.int .i64 l[n].up))]) k [.aa (.val (.int .i64 l[k].ah)),.aa (.sl 1 l[k].data),.row 2 2 0 (some (a.length+b.length)),.aa (.val (.string l[k].target)),.aa (.val (.int .i64 l[k].aD)),.aa (.sl 4 (l[k].aj.map bw.enc)),.aa (.val (.int .i64 l[k].aM)),.aa (.val (.int .i64 (IntKind.i64.wrap (l[k].am-1)))),.aa (.val (.int .i64 l[k].up))])=bV n (.row 2 2 0 (some (a.length+b.length))) (l.set k {l[k]with am:=(IntKind.i64.wrap (l[k].am-1))}):=by
    rw[mR];have:=hU (p:=n) (c:= .row 2 2 0 (some (a.length+b.length))) (o:={l[k]with am:=(IntKind.i64.wrap (l[k].am-1))}) fj
    rw[<-this,l4,if_pos IZ]
   have uo:dd (bb (bb (bV n (.row 2 2 0 none) l) n [.aa (.val (.int .i64 l[n].ah)),.aa (.sl 1 l[n].data),.row 2 2 0 (some (a.length+b.length)),.aa (.val (.string l[n].target)),.aa (.val (.int .i64 l[n].aD)),.aa (.sl 4 (l[n].aj.map bw.enc)),.aa (.val (.int .i64 l[n].aM)),.aa (.val (.int .i64 l[n].am)),.aa (.val (.int .i64 l[n].up))]) k [.aa (.val (.int .i64 l[k].ah)),.aa (.sl 1 l[k].data),.row 2 2 0 (some (a.length+b.length)),.aa (.val (.string l[k].target)),.aa (.val (.int .i64 l[k].aD)),.aa (.sl 4 (l[k].aj.map bw.enc)),.aa (.val (.int .i64 l[k].aM)),.aa (.val (.int .i64 (IntKind.i64.wrap (l[k].am-1)))),.aa (.val (.int .i64 l[k].up))]) k=some [.aa (.val (.int .i64 l[k].ah)),.aa (.sl 1 l[k].data),.row 2 2 0 (some (a.length+b.length)),.aa (.val (.string l[k].target)),.aa (.val (.int .i64 l[k].aD)),.aa (.sl 4 (l[k].aj.map bw.enc)),.aa (.val (.int .i64 l[k].aM)),.aa (.val (.int .i64 (IntKind.i64.wrap (l[k].am-1)))),.aa (.val (.int .i64 l[k].up))]:=by
    rw[bj,aZ,Wl (by rw[mR,hB];exact fj)]
   refine ag (by rw[mR];exact eC _ l k rfl fj:dH (k:Nat) (lenOf (bb (bV n (.row 2 2 0 none) l) n [.aa (.val (.int .i64 l[n].ah)),.aa (.sl 1 l[n].data),.row 2 2 0 (some (a.length+b.length)),.aa (.val (.string l[n].target)),.aa (.val (.int .i64 l[n].aD)),.aa (.sl 4 (l[n].aj.map bw.enc)),.aa (.val (.int .i64 l[n].aM)),.aa (.val (.int .i64 l[n].am)),.aa (.val (.int .i64 l[n].up))]).length 0 none)=some k) ?_
   refine ag (by rw[mR];exact MJ:dd (bb (bV n (.row 2 2 0 none) l) n [.aa (.val (.int .i64 l[n].ah)),.aa (.sl 1 l[n].data),.row 2 2 0 (some (a.length+b.length)),.aa (.val (.string l[n].target)),.aa (.val (.int .i64 l[n].aD)),.aa (.sl 4 (l[n].aj.map bw.enc)),.aa (.val (.int .i64 l[n].aM)),.aa (.val (.int .i64 l[n].am)),.aa (.val (.int .i64 l[n].up))]) k=some [.aa (.val (.int .i64 l[k].ah)),.aa (.sl 1 l[k].data),.row 2 2 0 (some (a.length+b.length)),.aa (.val (.string l[k].target)),.aa (.val (.int .i64 l[k].aD)),.aa (.sl 4 (l[k].aj.map bw.enc)),.aa (.val (.int .i64 l[k].aM)),.aa (.val (.int .i64 l[k].am)),.aa (.val (.int .i64 l[k].up))]) ?_
   refine ag (by rw[mR];exact eC _ l k rfl fj:dH (k:Nat) (lenOf (bb (bV n (.row 2 2 0 none) l) n [.aa (.val (.int .i64 l[n].ah)),.aa (.sl 1 l[n].data),.row 2 2 0 (some (a.length+b.length)),.aa (.val (.string l[n].target)),.aa (.val (.int .i64 l[n].aD)),.aa (.sl 4 (l[n].aj.map bw.enc)),.aa (.val (.int .i64 l[n].aM)),.aa (.val (.int .i64 l[n].am)),.aa (.val (.int .i64 l[n].up))]).length 0 none)=some k) ?_
   refine ag (by rw[mR];exact MJ:dd (bb (bV n (.row 2 2 0 none) l) n [.aa (.val (.int .i64 l[n].ah)),.aa (.sl 1 l[n].data),.row 2 2 0 (some (a.length+b.length)),.aa (.val (.string l[n].target)),.aa (.val (.int .i64 l[n].aD)),.aa (.sl 4 (l[n].aj.map bw.enc)),.aa (.val (.int .i64 l[n].aM)),.aa (.val (.int .i64 l[n].am)),.aa (.val (.int .i64 l[n].up))]) k=some [.aa (.val (.int .i64 l[k].ah)),.aa (.sl 1 l[k].data),.row 2 2 0 (some (a.length+b.length)),.aa (.val (.string l[k].target)),.aa (.val (.int .i64 l[k].aD)),.aa (.sl 4 (l[k].aj.map bw.enc)),.aa (.val (.int .i64 l[k].aM)),.aa (.val (.int .i64 l[k].am)),.aa (.val (.int .i64 l[k].up))]) ?_
   refine ag (by rw[n9];exact eC _ _ k (aaJ ..) fj:dH (k:Nat) (lenOf (bb (bb (bV n (.row 2 2 0 none) l) n [.aa (.val (.int .i64 l[n].ah)),.aa (.sl 1 l[n].data),.row 2 2 0 (some (a.length+b.length)),.aa (.val (.string l[n].target)),.aa (.val (.int .i64 l[n].aD)),.aa (.sl 4 (l[n].aj.map bw.enc)),.aa (.val (.int .i64 l[n].aM)),.aa (.val (.int .i64 l[n].am)),.aa (.val (.int .i64 l[n].up))]) k [.aa (.val (.int .i64 l[k].ah)),.aa (.sl 1 l[k].data),.row 2 2 0 (some (a.length+b.length)),.aa (.val (.string l[k].target)),.aa (.val (.int .i64 l[k].aD)),.aa (.sl 4 (l[k].aj.map bw.enc)),.aa (.val (.int .i64 l[k].aM)),.aa (.val (.int .i64 (IntKind.i64.wrap (l[k].am-1)))),.aa (.val (.int .i64 l[k].up))]).length 0 none)=some k) ?_
   refine ag uo ?_;refine bI (fun p9=>?_) (fun p9=>?_)
   .have p9:l[k].ah=2:=p9;have MF:(bb (bb (bb (bV n (.row 2 2 0 none) l) n [.aa (.val (.int .i64 l[n].ah)),.aa (.sl 1 l[n].data),.row 2 2 0 (some (a.length+b.length)),.aa (.val (.string l[n].target)),.aa (.val (.int .i64 l[n].aD)),.aa (.sl 4 (l[n].aj.map bw.enc)),.aa (.val (.int .i64 l[n].aM)),.aa (.val (.int .i64 l[n].am)),.aa (.val (.int .i64 l[n].up))]) k [.aa (.val (.int .i64 l[k].ah)),.aa (.sl 1 l[k].data),.row 2 2 0 (some (a.length+b.length)),.aa (.val (.string l[k].target)),.aa (.val (.int .i64 l[k].aD)),.aa (.sl 4 (l[k].aj.map bw.enc)),.aa (.val (.int .i64 l[k].aM)),.aa (.val (.int .i64 (IntKind.i64.wrap (l[k].am-1)))),.aa (.val (.int .i64 l[k].up))]) k [.aa (.val (.int .i64 l[k].ah)),.aa (.sl 1 l[k].data),.row 2 2 0 (some (a.length+b.length)),.aa (.val (.string l[k].target)),.aa (.val (.int .i64 l[k].aD)),.aa (.sl 4 (l[k].aj.map bw.enc)),.aa (.val (.int .i64 l[k].aM)),.aa (.val (.int .i64 (IntKind.i64.wrap (l[k].am-1)))),.aa (.val (.int .i64 (k:Nat)))])=bV n (.row 2 2 0 (some (a.length+b.length))) (l.set k {l[k]with am:=(IntKind.i64.wrap (l[k].am-1)),up:=(k:Int)}):=by
     rw[n9];have:=hU (p:=n) (c:= .row 2 2 0 (some (a.length+b.length))) (l:=l.set k {l[k]with am:=(IntKind.i64.wrap (l[k].am-1))}) (k:=k) (o:={l[k]with am:=(IntKind.i64.wrap (l[k].am-1)),up:=(k:Int)}) (by rw[aaJ];exact fj)
     rw[acq]at this;rw[<-this,l4,if_pos IZ]
    refine ag (by rw[n9];exact eC _ _ k (aaJ ..) fj:dH (k:Nat) (lenOf (bb (bb (bV n (.row 2 2 0 none) l) n [.aa (.val (.int .i64 l[n].ah)),.aa (.sl 1 l[n].data),.row 2 2 0 (some (a.length+b.length)),.aa (.val (.string l[n].target)),.aa (.val (.int .i64 l[n].aD)),.aa (.sl 4 (l[n].aj.map bw.enc)),.aa (.val (.int .i64 l[n].aM)),.aa (.val (.int .i64 l[n].am)),.aa (.val (.int .i64 l[n].up))]) k [.aa (.val (.int .i64 l[k].ah)),.aa (.sl 1 l[k].data),.row 2 2 0 (some (a.length+b.length)),.aa (.val (.string l[k].target)),.aa (.val (.int .i64 l[k].aD)),.aa (.sl 4 (l[k].aj.map bw.enc)),.aa (.val (.int .i64 l[k].aM)),.aa (.val (.int .i64 (IntKind.i64.wrap (l[k].am-1)))),.aa (.val (.int .i64 l[k].up))]).length 0 none)=some k) ?_
    refine ag uo ?_;obtain⟨o2,oV,eA⟩:=jw (name:=name) hn fj IT (q:={l[k]with am:=(IntKind.i64.wrap (l[k].am-1)),up:=(k:Int)}) (by rw[if_pos p9])
    refine⟨_,View.o 3 [] [1,2] ?_ (.nil _),i4 _ eA⟩
    iterate 9 refine .aq ?_
    refine .eq rfl ?_;refine .put (.rv (.one (.e8 (p:=none) (Co (Z:=fun k=>bz [1,2] k=true) rfl (by show some (Bk.row 9 _)=some (Bk.row 9 _);congr 1;exact congrArg _ MF) (hq _ rfl) oV)))) ?_
    repeat(first|exact .nil|refine .aq ?_)
   .have p9:l[k].ah≠2:=p9;obtain⟨o2,oV,eA⟩:=jw (name:=name) hn fj IT (q:={l[k]with am:=(IntKind.i64.wrap (l[k].am-1))}) (by rw[if_neg p9])
    refine⟨_,View.o 3 [] [1,2] ?_ (.nil _),i4 _ eA⟩
    iterate 9 refine .aq ?_
    refine .eq rfl ?_;refine .put (.rv (.one (.e8 (p:=none) (Co (Z:=fun k=>bz [1,2] k=true) rfl (by show some (Bk.row 9 _)=some (Bk.row 9 _);congr 1;exact congrArg _ n9) (hq _ rfl) oV)))) ?_
    repeat(first|exact .nil|refine .aq ?_)
  .have MJ:dd (bV n (.row 2 2 0 (some (a.length+b.length))) l) k=some [.aa (.val (.int .i64 l[k].ah)),.aa (.sl 1 l[k].data),.aa (.sl 2 l[k].ak),.aa (.val (.string l[k].target)),.aa (.val (.int .i64 l[k].aD)),.aa (.sl 4 (l[k].aj.map bw.enc)),.aa (.val (.int .i64 l[k].aM)),.aa (.val (.int .i64 l[k].am)),.aa (.val (.int .i64 l[k].up))]:=by rw[aZ,fw,IE fj,aaG,l4,if_neg IZ]
   have n9:(bb (bb (bV n (.row 2 2 0 none) l) n [.aa (.val (.int .i64 l[n].ah)),.aa (.sl 1 l[n].data),.row 2 2 0 (some (a.length+b.length)),.aa (.val (.string l[n].target)),.aa (.val (.int .i64 l[n].aD)),.aa (.sl 4 (l[n].aj.map bw.enc)),.aa (.val (.int .i64 l[n].aM)),.aa (.val (.int .i64 l[n].am)),.aa (.val (.int .i64 l[n].up))]) k [.aa (.val (.int .i64 l[k].ah)),.aa (.sl 1 l[k].data),.aa (.sl 2 l[k].ak),.aa (.val (.string l[k].target)),.aa (.val (.int .i64 l[k].aD)),.aa (.sl 4 (l[k].aj.map bw.enc)),.aa (.val (.int .i64 l[k].aM)),.aa (.val (.int .i64 (IntKind.i64.wrap (l[k].am-1)))),.aa (.val (.int .i64 l[k].up))])=bV n (.row 2 2 0 (some (a.length+b.length))) (l.set k {l[k]with am:=(IntKind.i64.wrap (l[k].am-1))}):=by
    rw[mR];have:=hU (p:=n) (c:= .row 2 2 0 (some (a.length+b.length))) (o:={l[k]with am:=(IntKind.i64.wrap (l[k].am-1))}) fj
    rw[<-this,l4,if_neg IZ]
   have uo:dd (bb (bb (bV n (.row 2 2 0 none) l) n [.aa (.val (.int .i64 l[n].ah)),.aa (.sl 1 l[n].data),.row 2 2 0 (some (a.length+b.length)),.aa (.val (.string l[n].target)),.aa (.val (.int .i64 l[n].aD)),.aa (.sl 4 (l[n].aj.map bw.enc)),.aa (.val (.int .i64 l[n].aM)),.aa (.val (.int .i64 l[n].am)),.aa (.val (.int .i64 l[n].up))]) k [.aa (.val (.int .i64 l[k].ah)),.aa (.sl 1 l[k].data),.aa (.sl 2 l[k].ak),.aa (.val (.string l[k].target)),.aa (.val (.int .i64 l[k].aD)),.aa (.sl 4 (l[k].aj.map bw.enc)),.aa (.val (.int .i64 l[k].aM)),.aa (.val (.int .i64 (IntKind.i64.wrap (l[k].am-1)))),.aa (.val (.int .i64 l[k].up))]) k=some [.aa (.val (.int .i64 l[k].ah)),.aa (.sl 1 l[k].data),.aa (.sl 2 l[k].ak),.aa (.val (.string l[k].target)),.aa (.val (.int .i64 l[k].aD)),.aa (.sl 4 (l[k].aj.map bw.enc)),.aa (.val (.int .i64 l[k].aM)),.aa (.val (.int .i64 (IntKind.i64.wrap (l[k].am-1)))),.aa (.val (.int .i64 l[k].up))]:=by
    rw[bj,aZ,Wl (by rw[mR,hB];exact fj)]
   refine ag (by rw[mR];exact eC _ l k rfl fj:dH (k:Nat) (lenOf (bb (bV n (.row 2 2 0 none) l) n [.aa (.val (.int .i64 l[n].ah)),.aa (.sl 1 l[n].data),.row 2 2 0 (some (a.length+b.length)),.aa (.val (.string l[n].target)),.aa (.val (.int .i64 l[n].aD)),.aa (.sl 4 (l[n].aj.map bw.enc)),.aa (.val (.int .i64 l[n].aM)),.aa (.val (.int .i64 l[n].am)),.aa (.val (.int .i64 l[n].up))]).length 0 none)=some k) ?_
   refine ag (by rw[mR];exact MJ:dd (bb (bV n (.row 2 2 0 none) l) n [.aa (.val (.int .i64 l[n].ah)),.aa (.sl 1 l[n].data),.row 2 2 0 (some (a.length+b.length)),.aa (.val (.string l[n].target)),.aa (.val (.int .i64 l[n].aD)),.aa (.sl 4 (l[n].aj.map bw.enc)),.aa (.val (.int .i64 l[n].aM)),.aa (.val (.int .i64 l[n].am)),.aa (.val (.int .i64 l[n].up))]) k=some [.aa (.val (.int .i64 l[k].ah)),.aa (.sl 1 l[k].data),.aa (.sl 2 l[k].ak),.aa (.val (.string l[k].target)),.aa (.val (.int .i64 l[k].aD)),.aa (.sl 4 (l[k].aj.map bw.enc)),.aa (.val (.int .i64 l[k].aM)),.aa (.val (.int .i64 l[k].am)),.aa (.val (.int .i64 l[k].up))]) ?_
   refine ag (by rw[mR];exact eC _ l k rfl fj:dH (k:Nat) (lenOf (bb (bV n (.row 2 2 0 none) l) n [.aa (.val (.int .i64 l[n].ah)),.aa (.sl 1 l[n].data),.row 2 2 0 (some (a.length+b.length)),.aa (.val (.string l[n].target)),.aa (.val (.int .i64 l[n].aD)),.aa (.sl 4 (l[n].aj.map bw.enc)),.aa (.val (.int .i64 l[n].aM)),.aa (.val (.int .i64 l[n].am)),.aa (.val (.int .i64 l[n].up))]).length 0 none)=some k) ?_
   refine ag (by rw[mR];exact MJ:dd (bb (bV n (.row 2 2 0 none) l) n [.aa (.val (.int .i64 l[n].ah)),.aa (.sl 1 l[n].data),.row 2 2 0 (some (a.length+b.length)),.aa (.val (.string l[n].target)),.aa (.val (.int .i64 l[n].aD)),.aa (.sl 4 (l[n].aj.map bw.enc)),.aa (.val (.int .i64 l[n].aM)),.aa (.val (.int .i64 l[n].am)),.aa (.val (.int .i64 l[n].up))]) k=some [.aa (.val (.int .i64 l[k].ah)),.aa (.sl 1 l[k].data),.aa (.sl 2 l[k].ak),.aa (.val (.string l[k].target)),.aa (.val (.int .i64 l[k].aD)),.aa (.sl 4 (l[k].aj.map bw.enc)),.aa (.val (.int .i64 l[k].aM)),.aa (.val (.int .i64 l[k].am)),.aa (.val (.int .i64 l[k].up))]) ?_
   refine ag (by rw[n9];exact eC _ _ k (aaJ ..) fj:dH (k:Nat) (lenOf (bb (bb (bV n (.row 2 2 0 none) l) n [.aa (.val (.int .i64 l[n].ah)),.aa (.sl 1 l[n].data),.row 2 2 0 (some (a.length+b.length)),.aa (.val (.string l[n].target)),.aa (.val (.int .i64 l[n].aD)),.aa (.sl 4 (l[n].aj.map bw.enc)),.aa (.val (.int .i64 l[n].aM)),.aa (.val (.int .i64 l[n].am)),.aa (.val (.int .i64 l[n].up))]) k [.aa (.val (.int .i64 l[k].ah)),.aa (.sl 1 l[k].data),.aa (.sl 2 l[k].ak),.aa (.val (.string l[k].target)),.aa (.val (.int .i64 l[k].aD)),.aa (.sl 4 (l[k].aj.map bw.enc)),.aa (.val (.int .i64 l[k].aM)),.aa (.val (.int .i64 (IntKind.i64.wrap (l[k].am-1)))),.aa (.val (.int .i64 l[k].up))]).length 0 none)=some k) ?_
   refine ag uo ?_;refine bI (fun p9=>?_) (fun p9=>?_)
   .have p9:l[k].ah=2:=p9;have MF:(bb (bb (bb (bV n (.row 2 2 0 none) l) n [.aa (.val (.int .i64 l[n].ah)),.aa (.sl 1 l[n].data),.row 2 2 0 (some (a.length+b.length)),.aa (.val (.string l[n].target)),.aa (.val (.int .i64 l[n].aD)),.aa (.sl 4 (l[n].aj.map bw.enc)),.aa (.val (.int .i64 l[n].aM)),.aa (.val (.int .i64 l[n].am)),.aa (.val (.int .i64 l[n].up))]) k [.aa (.val (.int .i64 l[k].ah)),.aa (.sl 1 l[k].data),.aa (.sl 2 l[k].ak),.aa (.val (.string l[k].target)),.aa (.val (.int .i64 l[k].aD)),.aa (.sl 4 (l[k].aj.map bw.enc)),.aa (.val (.int .i64 l[k].aM)),.aa (.val (.int .i64 (IntKind.i64.wrap (l[k].am-1)))),.aa (.val (.int .i64 l[k].up))]) k [.aa (.val (.int .i64 l[k].ah)),.aa (.sl 1 l[k].data),.aa (.sl 2 l[k].ak),.aa (.val (.string l[k].target)),.aa (.val (.int .i64 l[k].aD)),.aa (.sl 4 (l[k].aj.map bw.enc)),.aa (.val (.int .i64 l[k].aM)),.aa (.val (.int .i64 (IntKind.i64.wrap (l[k].am-1)))),.aa (.val (.int .i64 (k:Nat)))])=bV n (.row 2 2 0 (some (a.length+b.length))) (l.set k {l[k]with am:=(IntKind.i64.wrap (l[k].am-1)),up:=(k:Int)}):=by
     rw[n9];have:=hU (p:=n) (c:= .row 2 2 0 (some (a.length+b.length))) (l:=l.set k {l[k]with am:=(IntKind.i64.wrap (l[k].am-1))}) (k:=k) (o:={l[k]with am:=(IntKind.i64.wrap (l[k].am-1)),up:=(k:Int)}) (by rw[aaJ];exact fj)
     rw[acq]at this;rw[<-this,l4,if_neg IZ]
    refine ag (by rw[n9];exact eC _ _ k (aaJ ..) fj:dH (k:Nat) (lenOf (bb (bb (bV n (.row 2 2 0 none) l) n [.aa (.val (.int .i64 l[n].ah)),.aa (.sl 1 l[n].data),.row 2 2 0 (some (a.length+b.length)),.aa (.val (.string l[n].target)),.aa (.val (.int .i64 l[n].aD)),.aa (.sl 4 (l[n].aj.map bw.enc)),.aa (.val (.int .i64 l[n].aM)),.aa (.val (.int .i64 l[n].am)),.aa (.val (.int .i64 l[n].up))]) k [.aa (.val (.int .i64 l[k].ah)),.aa (.sl 1 l[k].data),.aa (.sl 2 l[k].ak),.aa (.val (.string l[k].target)),.aa (.val (.int .i64 l[k].aD)),.aa (.sl 4 (l[k].aj.map bw.enc)),.aa (.val (.int .i64 l[k].aM)),.aa (.val (.int .i64 (IntKind.i64.wrap (l[k].am-1)))),.aa (.val (.int .i64 l[k].up))]).length 0 none)=some k) ?_
    refine ag uo ?_;obtain⟨o2,oV,eA⟩:=jw (name:=name) hn fj IT (q:={l[k]with am:=(IntKind.i64.wrap (l[k].am-1)),up:=(k:Int)}) (by rw[if_pos p9])
    refine⟨_,View.o 3 [] [1,2] ?_ (.nil _),i4 _ eA⟩
    iterate 9 refine .aq ?_
    refine .eq rfl ?_;refine .put (.rv (.one (.e8 (p:=none) (Co (Z:=fun k=>bz [1,2] k=true) rfl (by show some (Bk.row 9 _)=some (Bk.row 9 _);congr 1;exact congrArg _ MF) (hq _ rfl) oV)))) ?_
    repeat(first|exact .nil|refine .aq ?_)
   .have p9:l[k].ah≠2:=p9;obtain⟨o2,oV,eA⟩:=jw (name:=name) hn fj IT (q:={l[k]with am:=(IntKind.i64.wrap (l[k].am-1))}) (by rw[if_neg p9])
    refine⟨_,View.o 3 [] [1,2] ?_ (.nil _),i4 _ eA⟩
    iterate 9 refine .aq ?_
    refine .eq rfl ?_;refine .put (.rv (.one (.e8 (p:=none) (Co (Z:=fun k=>bz [1,2] k=true) rfl (by show some (Bk.row 9 _)=some (Bk.row 9 _);congr 1;exact congrArg _ n9) (hq _ rfl) oV)))) ?_
    repeat(first|exact .nil|refine .aq ?_)
theorem EV(l:List Obj)(hs:wo l)(cT:Int)(name:ByteArray){m:Mem}{K:CV->Mem->Prop}(h:K (.bK [mB (df l cT name).1,cS (df l cT name).2.1,cS (df l cT name).2.2]) m):au Tryz.prog 75 [b8 l,an .i64 cT,eK name] m K:=by
 refine be (K0:=fun r m=>r= .bK [mB (df l cT name).1,cS (df l cT name).2.1,cS (df l cT name).2.2]/\m=[]) (bJ (cg Tryz.func75 l75 (Aj l hs cT name)) fun r m1⟨r',m',hv,h1,h2⟩=>⟨r',m',hv,h1,h2⟩) (by simp[b8,an,eK,CV.dm,CC.dm]) fun r m1 hr=>?_
 obtain⟨rfl,rfl⟩:=hr;exact⟨_,cJ.self rfl,h⟩
theorem EW(o:Obj)(hf:o.data.length<=4194304)(dh n:Int):body Tryz.prog c64 [o.cv,an .i64 dh,an .i64 n] [] (fun r m=>cJ m r (.bK [ZS (ju o.ah o.data dh n).1,cS (ju o.ah o.data dh n).2])):=by
 obtain⟨ah,data,ak,target,aD,aj,aM,am,up⟩:=o;have hf:data.length<=4194304:=hf;show body Tryz.prog c64 _ [] (fun r m=>cJ m r (.bK [ZS (ju ah data dh n).1,cS (ju ah data dh n).2]))
 refine bI (fun h1=>?_) (fun h1=>?_)
 .rw[ju,if_pos h1];exact jX (.one (.aI 1))
 refine bG (fun h2=>?_) (fun h2=>?_)
 .rw[ju,if_neg h1,if_pos h2];exact jX (.one (.aI 1))
 have hk:ah=1:=by simpa using h2
 refine ay (fun h3=>?_) (fun h3=>?_)
 .rw[ju,if_neg h1,if_neg (by simpa using hk),if_pos (.inl h3)]
  exact jX (.one (.aI 1))
 refine ay (fun h4=>?_) (fun h4=>?_)
 .rw[ju,if_neg h1,if_neg (by simpa using hk),if_pos (.inr h4)]
  exact jX (.one (.aI 1))
 rw[ju,if_neg h1,if_neg (by simpa using hk),if_neg (fun h=>h.elim h3 h4)]
 have h3:¬dh<0:=h3;have h4:¬n<0:=h4;obtain⟨A,rfl⟩:∃A:Nat,dh=A:=⟨dh.toNat,om⟩;obtain⟨N,rfl⟩:∃N:Nat,n=N:=⟨n.toNat,om⟩;rw[show((A:Nat):Int).toNat=A from rfl,show((N:Nat):Int).toNat=N from rfl];have HI:=m7 A data.length;have hm2:=m7 N (data.length-fg A data.length);have hL:nR (an .i64 (if(data.length:Int)<(A:Int)then(data.length:Int)else(A:Int)))=some (fg A data.length):=by rw[rB];rfl
 have hE:IntKind.i64.wrap ((if(data.length:Int)<(A:Int)then(data.length:Int)else(A:Int))+(if IntKind.i64.wrap ((data.length:Int)-(if(data.length:Int)<(A:Int)then(data.length:Int)else(A:Int)))<(N:Int)then IntKind.i64.wrap ((data.length:Int)-(if(data.length:Int)<(A:Int)then(data.length:Int)else(A:Int)))else(N:Int)))
   =((fg A data.length+fg N (data.length-fg A data.length):Nat):Int):=by
  rw[rB,show(data.length:Int)-((fg A data.length:Nat):Int)=((data.length-fg A data.length:Nat):Int) by omega,np om,rB,
   show((fg A data.length:Nat):Int)+((fg N (data.length-fg A data.length):Nat):Int)=((fg A data.length+fg N (data.length-fg A data.length):Nat):Int) by omega,np om]
 have hH:nR (an .i64 (IntKind.i64.wrap ((if(data.length:Int)<(A:Int)then(data.length:Int)else(A:Int))+(if IntKind.i64.wrap ((data.length:Int)-(if(data.length:Int)<(A:Int)then(data.length:Int)else(A:Int)))<(N:Int)then IntKind.i64.wrap ((data.length:Int)-(if(data.length:Int)<(A:Int)then(data.length:Int)else(A:Int)))else(N:Int)))))=some (fg A data.length+fg N (data.length-fg A data.length)):=by rw[hE];rfl
 refine ag hL ?_;refine ag hH ?_;refine bY (by rw[ZM,abr,abr];show fg A data.length<=fg A data.length+fg N (data.length-fg A data.length)/\fg A data.length+fg N (data.length-fg A data.length)<=data.length;omega) ?_
 refine gZ (IH data A N) (by simp[IH];omega) ?_
 exact jX (eT.self rfl)
theorem MK(o:Obj)(hf:o.data.length<=4194304)(dh n:Int){m:Mem}{K:CV->Mem->Prop}(h:K (.bK [ZS (ju o.ah o.data dh n).1,cS (ju o.ah o.data dh n).2]) m):au Tryz.prog 64 [o.cv,an .i64 dh,an .i64 n] m K:=
 be (aX Tryz.func64 l64 (EW o hf dh n)) (by simp[Obj.cv,Obj.enc,an,CV.dm,CC.dm,RV.dm]) fun r m1 hf=>⟨_,hf,h⟩
def c63:LF:= ⟨44,[.cell true 2 6,.tmp 7,.tmp 8],(.seq (.ai [qu 6 (.alloc [qd 0,qd 0]),qu 7 (.aH (qi 0)),qu 8 (.aH (qi 0))]) (.seq (.bX [qm 12 0,qu 13 (.aY 12),qf 14 0 13,qf 15 2 14,ql 16 15,qm 17 0,qu 18 (.aY 17),qf 19 3 18,ql 20 19,qu 21 (.bW 4 16 20),qf 22 3 21,ql 23 22,qm 24 1,qm 25 2,qu 26 (qc 103 [23,24,25]),qm 11 26,qu 27 (.ext 11 0),qu 28 (.ext 11 1),qu 9 (.alloc [qd 0,qd 0]),qw (.store 2 9 27),qm 10 28] [(.cons 0 none (.cons 1 none (.cons 2 none (.cons 3 none (.cons 4 none (.cons 5 none (.cons 6 none (.cons 7 none (.cons 8 none (.cons 9 none (.cons 10 none (.cons 11 none (.cons 12 none (.cons 13 none (.xJ (.cons 14 (some []) (.cons 15 none (.cons 16 none (.cons 17 none (.cons 18 (some [11,9,8,4]) (.cons 19 (some []) (.cons 20 none .nil))))))) (.cons 18 (some [11,9,8,4]) (.cons 14 (some []) (.cons 15 none (.cons 16 none (.cons 17 none (.cons 19 (some []) (.cons 20 none .nil))))))))))))))))))))))]) (.cu (.seq (.seq (.ai [qm 29 10,qu 30 (.aF .neq 29 (qi 0))]) (.cond 30 (.seq (.ai [qu 31 (.build [qd 0,qd 0] []),qm 32 10,qw (.store 2 6 31),qu 7 (.aH (qi 0)),qm 8 32]) .ret) .skip)) (.seq (.bX [qL 33 2 9,qm 34 0,qu 35 (.aY 34),qf 36 0 35,qf 37 1 36,ql 38 37,qf 39 0 9,ql 40 39,qu 41 (.bW 2 38 40),qf 42 0 41,ql 43 42,qw (.store 2 6 33),qm 7 43,qu 8 (.aH (qi 0))] [(.cons 0 none (.cons 1 none (.cons 2 none (.cons 3 none (.cons 4 none (.cons 5 none (.cons 6 none (.cons 7 none (.cons 8 none (.cons 9 none (.cons 10 none (.cons 11 (some [10,8,7,5]) (.cons 12 none (.cons 13 none .nil))))))))))))))]) .ret)))))⟩
def c70:LF:= ⟨30,[.tmp 6],(.seq (.ai [qu 6 (.aH (qi 0))]) (.seq (.seq (.ai [qm 7 2,qu 8 (.aF .eql 7 (qi 0))]) (.cond 8 (.seq (.ai [qm 9 0,qm 10 0,qu 11 (.aY 10),qf 12 0 11,qL 13 3 12,qu 14 (qc 66 [13]),qu 15 (.aY 9),qf 16 0 15,qw (.store 3 16 14)]) (.bX [qm 17 0,qu 18 (.aY 17),qf 19 0 18,qf 20 2 19,ql 21 20,qm 22 0,qu 23 (.aY 22),qf 24 3 23,ql 25 24,qm 26 1,qu 27 (.bW 4 21 25),qf 28 3 27,qw (.store 1 28 26)] [(.cons 0 none (.cons 1 none (.cons 2 none (.cons 3 none (.cons 4 none (.cons 5 none (.cons 6 none (.cons 7 none (.cons 8 none (.cons 9 none (.cons 10 none (.cons 11 none (.cons 12 (some []) .nil)))))))))))))])) .skip)) (.seq (.ai [qm 29 2,qm 6 29]) .ret)))⟩
def c76:LF:= ⟨23,[.tmp 6],(.seq (.ai [qu 6 (.aH (qi 0))]) (.seq (.seq (.ai [qm 7 2,qu 8 (.aF .eql 7 (qi 0))]) (.cond 8 (.seq (.ai [qm 9 0,qm 10 0,qu 11 (.aY 10),qf 12 0 11,qL 13 3 12,qu 14 (qc 66 [13]),qu 15 (.aY 9),qf 16 0 15,qw (.store 3 16 14)]) (.ai [qm 17 0,qm 18 1,qu 19 (.aY 17),qf 20 0 19,qf 21 0 20,qw (.store 1 21 18)])) .skip)) (.seq (.ai [qm 22 2,qm 6 22]) .ret)))⟩
namespace Kn
structure Cl where
 aM:Int
 ah:Int
 fd:Int
 gA:Int
 n:Int
 bF:Int
 bc:Int
 cN:bP.dG
 data:List Int
structure An where
 js:Int
 n:Int
 m:Int
 data:List (List Dt)
def An.no(e:Int):An:=⟨e,0,0,[]⟩
def An.enc(a:An):List Dt:=[.val (.int .i64 a.js),.val (.int .i64 a.n),.val (.int .i64 a.m),.sl 1 a.data]
def An.rv(a:An):RV:= .agg (a.enc.map .aa)
def An.cv(a:An):CV:= .rv a.rv
def Cl.enc(c:Cl):List Dt:=[.val (.int .i64 c.aM),.val (.int .i64 c.ah),.val (.int .i64 c.fd),.val (.int .i64 c.gA),.val (.int .i64 c.n),.val (.int .i64 c.bF),.val (.int .i64 c.bc),.val (.string (bP.cK c.cN)),.sl 1 (gM c.data)]
def Cl.cv(c:Cl):CV:= .rv (.agg (c.enc.map .aa))
def cB(c:Cl):Bk:= .var (c.enc.map .aa)
def xC(k:Kr)(p:Nat):List Dt:=[cU k.l,d5 k.ops,ff k.ps,.val (.int .i64 (p:Nat))]
def xB(k:Kr)(p:Nat):Bk:= .var ((xC k p).map .aa)
def lj(a b:Int):Int:=IntKind.i64.wrap ((BitVec.ofInt 64 a&&&BitVec.ofInt 64 b).toNat:Int)
def S4(a b:Int):Int:=IntKind.i64.wrap ((BitVec.ofInt 64 a|||BitVec.ofInt 64 b).toNat:Int)
def iA(l:List fz)(fd need:Int):(Int×Int)×Int:=(((Tb.oi (l.map p5) fd need).1.dk,(Tb.oi (l.map p5) fd need).1.bZ),(Tb.oi (l.map p5) fd need).2)
def rF(l:List fz)(fd:Int):(Int×Int)×Int:=(((Tb.eM (l.map p5) fd).1.dk,(Tb.eM (l.map p5) fd).1.bZ),(Tb.eM (l.map p5) fd).2)
def wt(l:List fz)(fd:Int):List fz×Int:=((Tb.mZ (l.map p5) fd).1.map O0,(Tb.mZ (l.map p5) fd).2)
def ML(l:List fz)(fd:Int):List fz×Int×Int:=((Tb.uk (l.map p5) fd).1.map O0,(Tb.uk (l.map p5) fd).2.1,(Tb.uk (l.map p5) fd).2.2)
def MM(l:List fz)(fd n:Int):List fz×Int:=((Tb.zW (l.map p5) fd n).1.map O0,(Tb.zW (l.map p5) fd n).2)
def S5(c:Int×Int):RV:= .agg [.aa (.val (.int .i64 c.1)),.aa (.val (.int .i64 c.2))]
theorem wu(l:List fz):kP l=Tb.eH (l.map p5):=by show _=CV.rv (.one (.aa (Tb.p4 (l.map p5))));rw[yz];rfl
theorem Cp(l:List fz)(fd need:Int){m:Mem}{K:CV->Mem->Prop}(h:K (.bK [S5 (iA l fd need).1,cS (iA l fd need).2]) m):au Tryz.prog 103 [kP l,an .i64 fd,an .i64 need] m K:=by rw[wu];exact Tb.j7 _ fd need h
theorem Pn(l:List fz)(fd:Int){m:Mem}{K:CV->Mem->Prop}(h:K (.bK [S5 (rF l fd).1,cS (rF l fd).2]) m):au Tryz.prog 80 [kP l,an .i64 fd] m K:=by rw[wu];exact Tb.vU _ fd h
theorem I0(l:List fz)(hl:l.length<=2097152)(fd:Int){m:Mem}{K:CV->Mem->Prop}(h:K (.bK [Lr (wt l fd).1,cS (wt l fd).2]) m):au Tryz.prog 67 [kP l,an .i64 fd] m K:=by
 rw[wu];refine Tb.L6 _ (by simpa using hl) fd ?_
 rw[o5];exact h
theorem Po(l:List fz)(hl:l.length<=2097152)(fd:Int){m:Mem}{K:CV->Mem->Prop}(h:K (.bK [Lr (ML l fd).1,cS (ML l fd).2.1,cS (ML l fd).2.2]) m):au Tryz.prog 68 [kP l,an .i64 fd] m K:=by
 rw[wu];refine Tb.SA _ (by simpa using hl) fd ?_
 rw[o5];exact h
theorem I1(l:List fz)(hl:l.length<=2097152)(fd n:Int){m:Mem}{K:CV->Mem->Prop}(h:K (.bK [Lr (MM l fd n).1,cS (MM l fd n).2]) m):au Tryz.prog 69 [kP l,an .i64 fd,an .i64 n] m K:=by
 rw[wu];refine Tb.Mb _ (by simpa using hl) fd n ?_
 rw[o5];exact h
def lN(ops:List bi)(z:Int):Int:=match ops[z.toNat]? with|some o=>o.bD|none=>0
def ox(ops:List bi)(z:Int):Int:=match ops[z.toNat]? with|some o=>o.dh|none=>0
def bH(k:Kr)(p:Nat)(fd need:Int):(Int×Int)×Int×Int:=
 if(iA (ba k.ps p) fd need).2≠0 then((0,0),0,(iA (ba k.ps p) fd need).2)else((iA (ba k.ps p) fd need).1,lN k.ops (iA (ba k.ps p) fd need).1.1,0)
def jD(k:Kr)(p:Nat)(l:List fz)(e:Int):Kr:=if e=0 then⟨k.l,k.ops,fv k.ps p l⟩else k
def dt(k:Kr)(l:List Obj)(e:Int):Kr:=if e=0 then⟨l,k.ops,k.ps⟩else k
structure KW(k:Kr)(p:Nat):Prop where
 kr:dF k.l k.ops k.ps
 l40:k.l.length<=40
 Df:wo k.l
 lk:m6 (k.l.map Obj.ob)
 nm:∀o,o∈k.l->∀e,e∈o.ak.map nq->e.1.size<=12
 hp:p<k.ps.length
 cap:∀s,s∈ba k.ps p->s.has=true->∃n j:Nat,s.dk=n/\n<k.ops.length/\lN k.ops n=j/\j<k.l.length
theorem i5{ps:List aT}{p:Nat}(hp:p<ps.length):ba ps p=ps[p].aJ:=by rw[ba,IE hp]
theorem wv{l:List fz}{fd need:Int}(h:(iA l fd need).2=0):∃s,s∈l/\s.has=true/\(iA l fd need).1=(s.dk,s.bZ):=by
 unfold iA Tb.oi at h⊢;split at h
 .simp at h
 .rename_i hn;rw[if_neg hn];unfold Tb.eM at h⊢;cases hx:(if 0<=fd then(l.map p5)[fd.toNat]? else none)with
  |none=>rw[hx]at h;simp at h
  |some s=>
   rw[hx]at h;simp only at h⊢;cases hh:s.has with
   |false=>rw[hh]at h;simp at h
   |true=>
    split at hx
    .rw[Q8]at hx;cases hy:l[fd.toNat]? with
     |none=>rw[hy]at hx;cases hx
     |some t=>
      rw[hy]at hx;simp only[aaG,aag]at hx;subst hx;exact⟨t,Rq hy,hh,rfl⟩
    .cases hx
theorem KW.at{k:Kr}{p:Nat}(h:KW k p){fd need:Int}(he:(iA (ba k.ps p) fd need).2=0):∃n j:Nat,(iA (ba k.ps p) fd need).1.1=n/\n<k.ops.length/\lN k.ops n=j/\j<k.l.length:=by
 obtain⟨s,hs,hh,e⟩:=wv he;obtain⟨n,j,h1,h2⟩:=h.cap s hs hh;exact⟨n,j,by rw[e];exact h1,h2⟩
theorem KW.held{k:Kr}{p:Nat}(h:KW k p){fd need:Int}(he:(bH k p fd need).2.2=0):∃n j:Nat,(bH k p fd need).1.1=n/\n<k.ops.length/\(bH k p fd need).2.1=j/\j<k.l.length/\lN k.ops n=j:=by
 unfold bH at he⊢;split at he
 .rename_i hn;exact absurd he hn
 .rename_i hn;rw[if_neg hn];obtain⟨n,j,h1,h2,h3,h4⟩:=h.at (Decidable.of_not_not hn);exact⟨n,j,h1,h2,by show lN k.ops _=_;rw[h1];exact h3,h4,h3⟩
theorem KW.mL{k:Kr}{p:Nat}(h:KW k p):jW k.l:=⟨h.kr.ll,fun o ho=>(h.kr.sm o ho).mL⟩
theorem ia{m:Mem}{Z:Nat->Prop}{id esz:Nat}{p:Option Nat}{ds:List (List Dt)}(hz:Z id)(hm:m[id]? =some (.row esz (af ds))):dC m Z p (.row id esz 0 none) (.sl esz ds):=by
 refine dC.row id esz 0 none (af ds) ds hz hm (by simp[af]) (fun i cs es h1 h2=>?_) (fun i cs es j c d h1 h2 h3 h4=>?_)
 .simp only[af,Q8,h2,aaG,aag]at h1;subst h1;simp
 .simp only[af,Q8,h2,aaG,aag]at h1;subst h1;rw[Q8,h4]at h3;cases h3;exact .aa _
theorem bL(k:Kr)(p:Nat):xB k p≠.aW:=by intro h;cases h
theorem cI(c:Cl):cB c≠.aW:=by intro h;cases h
theorem S6{σ:Nat->Nat}{m:Mem}{Z:Nat->Prop}{id p:Nat}{a b c:CC}{k:Kr}(ha:dC m Z (some id) a (cU k.l))(hb:dC m Z (some id) b (d5 k.ops))(hc:dC m Z (some id) c (ff k.ps)):
  mK σ m Z id (.var [a,b,c,.aa (.val (.int .i64 (p:Nat)))]) (xB k p):=
 eP.var (.cons (.e8 ha) (.cons (.e8 hb) (.cons (.e8 hc) (.cons (.aO (.aa _)) .nil))))
theorem GZ{f:Nat}{args:List CV}(ha:∀σ,args.map (CV.aO σ)=args){k k':Kr}{p:Nat}{r0:CV}(hr:∀σ,r0.aO σ=r0)(hc:au Tryz.prog f (.rv (.one (.ptr 0 0))::args) [xB k p] (fun r m=>r=r0/\m=[xB k' p])){m:Mem}(id:Nat)(hb:dd m id=some (xB k p)){K:CV->Mem->Prop}(hK:K r0 (bb m id (xB k' p))):au Tryz.prog f (.rv (.one (.ptr id 0))::args) m K:=by
 have hid:id<m.length:=by rw[aZ]at hb;exact(Mh.1 hb).1
 refine bu [id] m.length rfl rfl rfl (by simp[eO,hid]) (args0:= .rv (.one (.ptr 0 0))::args) (by rw[abv,ha];rfl) (fun i b' hi=>?_) hc (fun r1 m1 AW=>?_)
 .cases i with
  |zero=>
   simp at hi;subst hi;refine .inr ⟨fun h=>h,_,?_,.eq rfl (bL _ _)⟩
   rw[aZ]at hb;exact hb
  |succ i=>simp at hi
 .obtain⟨rfl,rfl⟩:=AW;refine⟨SS _,?_⟩;rw[hr];show K _ (dp m [id] [xB k' p]);rw[BM];exact hK
theorem Re{f:Nat}{args:List CV}(ha:∀σ,args.map (CV.aO σ)=args){k k':Kr}{p:Nat}{c:Cl}{r0:CV}(hr:∀σ,r0.aO σ=r0)(hc:au Tryz.prog f (.rv (.one (.ptr 0 0)):: .rv (.one (.ptr 1 0))::args) [xB k p,cB c] (fun r m=>r=r0/\m=[xB k' p,cB c])){m:Mem}(i j:Nat)(qy:gu [i,j]=true)(aB:eO m.length [i,j]=true)(hi:dd m i=some (xB k p))(hj:dd m j=some (cB c)){K:CV->Mem->Prop}(hK:K r0 (dp m [i,j] [xB k' p,cB c])):au Tryz.prog f (.rv (.one (.ptr i 0)):: .rv (.one (.ptr j 0))::args) m K:=by
 refine bu [i,j] m.length rfl rfl qy aB (args0:= .rv (.one (.ptr 0 0)):: .rv (.one (.ptr 1 0))::args) (by rw[abv,abv,ha];rfl) (fun n b' hn=>?_) hc (fun r1 m1 AW=>?_)
 .match n,hn with
  |0,hn=>
   cases hn;refine .inr ⟨fun h=>h,_,?_,.eq rfl (bL _ _)⟩
   rw[aZ]at hi;exact hi
  |1,hn=>
   cases hn;refine .inr ⟨fun h=>h,_,?_,.eq rfl (cI _)⟩
   rw[aZ]at hj;exact hj
  |n+2,hn=>simp at hn
 .obtain⟨rfl,rfl⟩:=AW;refine⟨SS _,?_⟩;rw[hr];exact hK
theorem l63:bx Tryz.prog Tryz.f63=some c63.er:=by kernel_rfl
def Pp(x:(Int×Int)×Int×Int):CV:= .bK [S5 x.1,cS x.2.1,cS x.2.2]
def aad:LC:=bv (bv c63.code)
def aae:LC:=lX aad
theorem Cq(k:Kr)(p:Nat)(hw:KW k p)(fd need:Int):
  aw Tryz.prog 1 aae (mg Tryz.prog c63.kD (fun r m=>r=Pp (bH k p fd need)/\∃ex,m=xB k p::ex))
   ⟨iL 44 [(0,.rv (.one (.ptr 0 0))),(6,.rv (.one (.ptr 1 0))),(9,.rv (.one (.ptr 2 0))),(10,an .i64 (iA (ba k.ps p) fd need).2)],
    [xB k p,.var [.aa (.val (.int .i64 0)),.aa (.val (.int .i64 0))],.var [.aa (.val (.int .i64 (iA (ba k.ps p) fd need).1.1)),.aa (.val (.int .i64 (iA (ba k.ps p) fd need).1.2))]]⟩:=by
 have Da:= @KW.at k p hw fd need;have Gh:bH k p fd need=if(iA (ba k.ps p) fd need).2≠0 then((0,0),0,(iA (ba k.ps p) fd need).2)else((iA (ba k.ps p) fd need).1,lN k.ops (iA (ba k.ps p) fd need).1.1,0):=rfl
 rw[Gh];clear Gh;generalize iA (ba k.ps p) fd need=w at Da⊢;obtain⟨⟨o,r⟩,e⟩:=w;refine bG (fun he=>?_) (fun he=>?_)
 .rw[if_pos he];exact⟨rfl,_,rfl⟩
 .have he:e=0:=he;subst he;obtain⟨n,j,h1,h2,h3,h4⟩:=Da rfl;have h1:o=n:=h1;subst h1;rw[if_neg aG];refine ag (lM h2) ?_;have ho:lN k.ops (n:Int)=k.ops[n].bD:=by rw[lN,Z3,IE h2]
  refine⟨⟨rfl,ag (lM h2) rfl,rfl,rfl,trivial⟩,?_⟩;show _=Pp ((_,_),lN k.ops (n:Int),0)/\_;rw[ho];exact⟨rfl,_,rfl⟩
theorem sI(k:Kr)(p:Nat)(hw:KW k p)(fd need:Int):
  body Tryz.prog c63 [.rv (.one (.ptr 0 0)),an .i64 fd,an .i64 need] [xB k p] (fun r m=>r=Pp (bH k p fd need)/\∃ex,m=xB k p::ex):=by
 have hg:=dW hw.hp;rw[<-i5 hw.hp]at hg;refine ag hg ?_;refine⟨?_,?_⟩
 .refine Cp _ fd need ?_;refine⟨trivial,⟨rfl,ag hg rfl,rfl,rfl,trivial⟩,trivial,_,View.o1 3 [0,1,2] [] ?_,Cq k p hw fd need⟩
  .exact .pt rfl rfl (.eq rfl (bL _ _)) (.pe rfl rfl rfl (.pm rfl rfl rfl))
 .refine⟨⟨rfl,ag hg rfl,rfl,rfl,trivial⟩,?_⟩;refine Cp _ fd need ?_;refine⟨trivial,trivial,_,View.o1 3 [0,1,2] [] ?_,Cq k p hw fd need⟩
  .exact .pt rfl rfl (.eq rfl (bL _ _)) (.pe rfl rfl rfl (.pm rfl rfl rfl))
theorem j7(k:Kr)(p:Nat)(hw:KW k p)(fd need:Int){m:Mem}(id:Nat)(hb:dd m id=some (xB k p)){K:CV->Mem->Prop}(hK:K (Pp (bH k p fd need)) m):
  au Tryz.prog 63 [.rv (.one (.ptr id 0)),an .i64 fd,an .i64 need] m K:=
 fe (args0:=[.rv (.one (.ptr 0 0)),an .i64 fd,an .i64 need]) (cs:=xC k p) id hb rfl rfl
  (fun _ hK=>eF rfl (cg Tryz.func63 l63 (sI k p hw fd need)) hK) hK
theorem l70:bx Tryz.prog Tryz.f70=some c70:=by kernel_rfl
theorem l76:bx Tryz.prog Tryz.f76=some c76:=by kernel_rfl
def TX(Q:CV->Mem->Prop)(r:CV)(m:Mem):Prop:=∃r' m',View 1 ⟨[r],m⟩ ⟨[r'],m'⟩/\Q r' m'
theorem EX{ps:List aT}{n:Nat}(hn:n<ps.length)(y:List fz):bb (af (ps.map aT.enc)) n ((aT.enc ⟨ps[n].aQ,ps[n].fenced,ps[n].code,y⟩).map .aa)=af ((fv ps n y).map aT.enc):=by
 have:fv ps n y=ps.set n {ps[n]with aJ:=y}:=by rw[fv,IE hn]
 rw[this,bj,af,af,abJ,abJ]
theorem EY(k:Kr)(p:Nat)(hk:dF k.l k.ops k.ps)(hp:p<k.ps.length)(l:List fz)(e:Int):
  body Tryz.prog c70 [.rv (.one (.ptr 0 0)),kP l,an .i64 e] [xB k p] (TX fun r m=>r=an .i64 e/\m=[xB (jD k p l e) p]):=by
 refine bI (fun he=>?_) (fun he=>?_)
 .have he:e=0:=he;subst he;refine iv k.l k.ops k.ps ⟨hk.ll,fun o ho=>(hk.sm o ho).mL⟩ hk.lo hk.lp hk.sl hk.ne ?_
  refine ag (lY hp) ?_;refine ag (bA aT.enc k.ps hp) ?_;refine⟨trivial,_,_,View.o 4 [0] [1,2,3] (.eq rfl .nil) (.pt rfl rfl (S6 (k:=jD k p l 0) (ia rfl rfl) (ia rfl rfl) (ia rfl ?_)) (.nil _)),rfl,rfl⟩;refine congrArg (fun x=>some (Bk.row 4 x)) ?_
  exact EX hp l
 .have he:¬e=0:=he;refine⟨_,_,View.o 1 [0] [] (.eq rfl .nil) (.pt rfl rfl (.eq rfl (bL _ _)) (.nil _)),rfl,?_⟩;rw[jD,if_neg he]
theorem Cr(k:Kr)(p:Nat)(hk:dF k.l k.ops k.ps)(hp:p<k.ps.length)(l:List fz)(e:Int){m:Mem}(id:Nat)(hb:dd m id=some (xB k p)){K:CV->Mem->Prop}(hK:K (an .i64 e) (bb m id (xB (jD k p l e) p))):
  au Tryz.prog 70 [.rv (.one (.ptr id 0)),kP l,an .i64 e] m K:=
 GZ (args:=[kP l,an .i64 e]) (fun _=>rfl) (fun _=>rfl)
  (bJ (aX Tryz.func70 l70 (EY k p hk hp l e)) fun r m1⟨r',m',hv,hq⟩=>⟨r',m',hv,hq⟩) id hb hK
theorem Ak(k:Kr)(p:Nat)(hk:dF k.l k.ops k.ps)(l:List Obj)(e:Int):
  body Tryz.prog c76 [.rv (.one (.ptr 0 0)),b8 l,an .i64 e] [xB k p] (TX fun r m=>r=an .i64 e/\m=[xB (dt k l e) p]):=by
 refine bI (fun he=>?_) (fun he=>?_)
 .have he:e=0:=he;subst he;refine iv k.l k.ops k.ps ⟨hk.ll,fun o ho=>(hk.sm o ho).mL⟩ hk.lo hk.lp hk.sl hk.ne ?_
  exact⟨_,_,View.o 4 [0] [1,2,3] (.eq rfl .nil) (.pt rfl rfl (S6 (k:=dt k l 0) (.aa _) (ia rfl rfl) (ia rfl rfl)) (.nil _)),rfl,rfl⟩
 .have he:¬e=0:=he;refine⟨_,_,View.o 1 [0] [] (.eq rfl .nil) (.pt rfl rfl (.eq rfl (bL _ _)) (.nil _)),rfl,?_⟩;rw[dt,if_neg he]
theorem m8(k:Kr)(p:Nat)(hk:dF k.l k.ops k.ps)(l:List Obj)(e:Int){m:Mem}(id:Nat)(hb:dd m id=some (xB k p)){K:CV->Mem->Prop}(hK:K (an .i64 e) (bb m id (xB (dt k l e) p))):
  au Tryz.prog 76 [.rv (.one (.ptr id 0)),b8 l,an .i64 e] m K:=
 GZ (args:=[b8 l,an .i64 e]) (fun _=>rfl) (fun _=>rfl)
  (bJ (aX Tryz.func76 l76 (Ak k p hk l e)) fun r m1⟨r',m',hv,hq⟩=>⟨r',m',hv,hq⟩) id hb hK
end Kn
namespace Kn
def MN(k:Kr)(n:Nat)(bD bZ:Int)(r:CV)(m:Mem):Prop:=∃r' m',View 0 ⟨[r],m⟩ ⟨[r'],m'⟩/\
 (((aP k n bD bZ).2.2≠0/\r'= .bK [iM m5,cS 0,cS (aP k n bD bZ).2.2]/\m'=[])\/
 ((aP k n bD bZ).2.2=0/\r'= .bK [.agg [.row 0 9 0 none,.aa (d5 (aP k n bD bZ).1.ops),.aa (ff (aP k n bD bZ).1.ps)],cS (aP k n bD bZ).2.1,cS 0]/\m'=[.row 9 (af ((aP k n bD bZ).1.l.map Obj.enc))]))
theorem t3V{σ:Nat->Nat}{m:Mem}{Z:Nat->Prop}{a a' b b' c c':RV}(h1:wZ σ m Z a a')(h2:wZ σ m Z b b')(h0:wZ σ m Z c c'):pW σ m Z (.bK [a,b,c]) (.bK [a',b',c']):=
 .bK rfl fun i r r' e1 e2=>by
  match i,e1,e2 with
  |0,e1,e2=>cases e1;cases e2;exact h1
  |1,e1,e2=>cases e1;cases e2;exact h2
  |2,e1,e2=>cases e1;cases e2;exact h0
  |n+3,e1,e2=>simp at e1
theorem aaf{σ:Nat->Nat}{m:Mem}{Z:Nat->Prop}{x y:Int}:pW σ m Z (.bK [.agg [.aI,.aI,.aI],cS x,cS y]) (.bK [iM m5,cS x,cS y]):=
 t3V (.agg rfl fun i c c' h1 h2=>by
  match i,h1,h2 with
  |0,h1,h2=>cases h1;cases h2;exact .e8 (.aI 9)
  |1,h1,h2=>cases h1;cases h2;exact .e8 (.aI 2)
  |2,h1,h2=>cases h1;cases h2;exact .e8 (.aI 4)
  |n+3,h1,h2=>simp at h1) (.one (.aO (.aa _))) (.one (.aO (.aa _)))
def Q18(k:Kr)(n:Nat)(bD bZ:Int):Ex->St->Prop:=mg Tryz.prog c79.kD (MN k n bD bZ)
theorem Cs{k:Kr}{n:Nat}{bD bZ e:Int}{m:Mem}(h:aP k n bD bZ=(m5,0,e))(he:e≠0):MN k n bD bZ (.bK [.agg [.aI,.aI,.aI],cS 0,cS e]) m:=by refine⟨_,[],View.of m.length [] [] rfl rfl rfl rfl rfl rfl (.put aaf .nil) (.nil _),.inl ?_⟩;rw[h];exact⟨he,rfl,rfl⟩
theorem MO(k:Kr)(l:List Obj)(O:List bi)(ps:List aT)(n i:Nat)(hn:n<ps.length)(hi:i<O.length)(bD fd bZ:Int)(y:List fz)(h:aP k n bD bZ=(⟨l,O.set i ⟨bD,0⟩,fv ps n y⟩,fd,0)):
  aw Tryz.prog 0 G60 (Q18 k n bD bZ)
   ⟨iL 74 [(1,an .i64 (n:Nat)),(2,an .i64 bD),(8,.rv (.one (.ptr 0 0))),(11,an .i64 (i:Nat)),(12,kP y),(13,an .i64 fd),(15,.rv (.one (.ptr 4 0)))],M60 l O ps⟩:=by
 refine ag (zM hi) ?_;have ho:=bA bi.enc O hi;generalize O[i]=x at ho;obtain⟨xo,xa⟩:=x;refine ag ho ?_;refine ag (lY hn) ?_;have hp:=bA aT.enc ps hn;have mJ:fv ps n y=ps.set n {ps[n]with aJ:=y}:=by rw[fv,IE hn]
 rw[mJ]at h;generalize ps[n]=z at hp h;obtain⟨aQ,fenced,cd,aJ⟩:=z;refine ag hp ?_;refine⟨.bK [.agg [.row 0 9 0 none,.aa (d5 (O.set i ⟨bD,0⟩)),.aa (ff (ps.set n ⟨aQ,fenced,cd,y⟩))],cS fd,cS 0],[.row 9 (af (l.map Obj.enc))],
  View.o 5 [1] [2,3] (.put (t3V (.agg rfl fun j c c' h1 h2=>?_) (.one (.aO (.aa _))) (.one (.aO (.aa _)))) .nil) (.pn rfl rfl rfl),.inr ⟨by rw[h],by rw[h],by rw[h]⟩⟩
 match j,h1,h2 with
 |0,h1,h2=>cases h1;cases h2;exact .aO (σ:=sg [1] 5) (.row 0 9 0 none)
 |1,h1,h2=>
  cases h1;cases h2;refine .e8 (ia rfl (congrArg (fun x=>some (Bk.row 2 x)) ?_))
  show bb (af (O.map bi.enc)) i ((bi.enc ⟨bD,0⟩).map .aa)=_;rw[bj,af,af,abJ,abJ]
 |2,h1,h2=>
  cases h1;cases h2;refine .e8 (ia rfl (congrArg (fun x=>some (Bk.row 4 x)) ?_))
  show bb (af (ps.map aT.enc)) n ((aT.enc ⟨aQ,fenced,cd,y⟩).map .aa)=_;rw[bj,af,af,abJ,abJ]
 |n+3,h1,h2=>simp at h1
theorem MP(k:Kr)(hk:dF k.l k.ops k.ps)(n:Nat)(hn:n<k.ps.length)(bD bZ:Int)(i:Nat)(hi:i=ec k.ops)(Qv:i<=k.ops.length)(jc:¬(GK k.ops=none/\k.ops.length>=60)):
  aw Tryz.prog 0 ZH (Q18 k n bD bZ)
   ⟨iL 74 [(1,an .i64 (n:Nat)),(2,an .i64 bD),(3,an .i64 bZ),(4,.rv (.one (.ptr 0 0))),(8,.rv (.one (.ptr 1 0))),(11,an .i64 (i:Nat))],[.var ((kC k.l k.ops k.ps).map .aa),.var [.aI,.aI,.aI]]⟩:=by
 have GM:ba k.ps n=k.ps[n].aJ:=by rw[ba,IE hn]
 have uD:=hk.sl _ (Z0 hn);have SB:k.ops.length<=4194304:=hk.lo;have hS:aP k n bD bZ=if(gH k.ps[n].aJ (i:Nat) bZ).2.2≠0 then(m5,0,(gH k.ps[n].aJ (i:Nat) bZ).2.2)
   else(⟨k.l,jM k.ops i ⟨bD,0⟩,fv k.ps n (gH k.ps[n].aJ (i:Nat) bZ).1⟩,(gH k.ps[n].aJ (i:Nat) bZ).2.1,0):=by
  rw[aP,if_neg jc,GM,<-hi]
 refine ag (dW hn) ?_;generalize k.ps[n].aJ=S at uD hS;refine zV S om (i:Nat) bZ ?_;generalize gH S (i:Nat) bZ=A at hS;obtain⟨y,fd,e⟩:=A;refine bG (fun he=>?_) (fun he=>?_)
 .rw[if_pos he]at hS;exact Cs hS he
 have he:e=0:=he;subst he;rw[if_neg aG]at hS;refine iv k.l k.ops k.ps ⟨hk.ll,fun o ho=>(hk.sm o ho).mL⟩ hk.lo hk.lp hk.sl hk.ne ?_
 refine bI (fun gX=>?_) (fun gX=>?_)
 .have gX:i=k.ops.length:=by have gX:(i:Int)=((af (k.ops.map bi.enc)).length:Int):=gX;rw[aU,Nq]at gX;omega
  have jT:jM k.ops i ⟨bD,0⟩=(k.ops++ [bi.mk 0 0]).set i ⟨bD,0⟩:=by rw[jM,if_pos gX,gX];simp
  rw[jT]at hS;refine⟨by simp only[cD,aU,Nq,aar,aby];omega,?_⟩
  refine⟨_,View.o1 8 [1,2,7,4,5] [] ?_,MO k k.l (k.ops++ [bi.mk 0 0]) k.ps n i hn (by simp;omega) bD fd bZ y hS⟩
  .exact .pe rfl rfl rfl (.pr rfl rfl rfl (.pt rfl rfl (.bM (by simp[cD,af,bi.enc])) (.pr rfl rfl rfl (.pm rfl rfl rfl))))
 .have aB:i<k.ops.length:=by have gX:¬(i:Int)=((af (k.ops.map bi.enc)).length:Int):=gX;rw[aU,Nq]at gX;omega
  have jT:jM k.ops i ⟨bD,0⟩=k.ops.set i ⟨bD,0⟩:=by rw[jM,if_neg om]
  rw[jT]at hS;refine⟨_,View.o1 6 [1,2,3,4,5] [] ?_,MO k k.l k.ops k.ps n i hn aB bD fd bZ y hS⟩
  .exact .pe rfl rfl rfl (.pr rfl rfl rfl (.pr rfl rfl rfl (.pr rfl rfl rfl (.pm rfl rfl rfl))))
theorem Al(k:Kr)(hk:dF k.l k.ops k.ps)(n:Nat)(hn:n<k.ps.length)(bD bZ:Int):body Tryz.prog c79 [cP k.l k.ops k.ps,an .i64 (n:Nat),an .i64 bD,an .i64 bZ] [] (MN k n bD bZ):=by
 refine GL k.ops hk.lo ?_;have SB:k.ops.length<=4194304:=hk.lo;cases ho:GK k.ops with
 |none=>
  have SC:J4 k.ops= -1:=by rw[J4,ho]
  have L8:ec k.ops=k.ops.length:=by rw[ec,ho];rfl
  rw[SC];refine ay (fun vW=>?_) (fun vW=>?_)
  .have vW:k.ops.length>=60:=by have vW:((k.ops.map bi.enc).length:Int)>=60:=vW;rw[Nq]at vW;omega
   exact Cs (by rw[aP,if_pos ⟨ho,vW⟩]) (by decide)
  .have vW:¬k.ops.length>=60:=by have vW:¬((k.ops.map bi.enc).length:Int)>=60:=vW;rw[Nq]at vW;omega
   refine⟨_,View.o 2 [0,1] [] ?_ ?_,MP k hk n hn bD bZ k.ops.length L8.symm (SS _) (fun h=>vW h.2)⟩
   .have hlen:an .i64 (((k.ops.map bi.enc).length:Nat):Int)=an .i64 ((k.ops.length:Nat):Int):=by rw[Nq]
    repeat(first|exact .nil|refine .aq ?_|refine .eq rfl ?_)
    refine .eq hlen.symm ?_;repeat(first|exact .nil|refine .aq ?_|refine .eq rfl ?_)
   .exact .pt rfl rfl (.eq rfl (by simp[kC])) (.pm rfl rfl rfl)
 |some i=>
  have SC:J4 k.ops=(i:Nat):=by rw[J4,ho]
  have L8:ec k.ops=i:=by rw[ec,ho];rfl
  have Qv:=EA ho;rw[SC];refine⟨_,View.o1 2 [0,1] [] ?_,MP k hk n hn bD bZ i L8.symm om (fun h=>by rw[ho]at h;cases h.1)⟩
  .exact .pt rfl rfl (.eq rfl (by simp[kC])) (.pm rfl rfl rfl)
theorem ww(k:Kr)(hk:dF k.l k.ops k.ps)(n:Nat)(hn:n<k.ps.length)(bD bZ:Int){m:Mem}{K:CV->Mem->Prop}(h1:(aP k n bD bZ).2.2≠0->K (.bK [iM m5,cS 0,cS (aP k n bD bZ).2.2]) m)(h2:(aP k n bD bZ).2.2=0->K (.bK [.agg [.row m.length 9 0 none,.aa (d5 (aP k n bD bZ).1.ops),.aa (ff (aP k n bD bZ).1.ps)],cS (aP k n bD bZ).2.1,cS 0]) (m++ [.row 9 (af ((aP k n bD bZ).1.l.map Obj.enc))])):
  au Tryz.prog 79 [cP k.l k.ops k.ps,an .i64 (n:Nat),an .i64 bD,an .i64 bZ] m K:=by
 refine bu [] m.length rfl rfl rfl rfl rfl (fun i b' hi=>by simp at hi)
  (bJ (cg Tryz.func79 l79 (Al k hk n hn bD bZ)) fun r m1⟨r',m',hv,hq⟩=>⟨r',m',hv,hq⟩) (fun r m1 hp=>⟨Wi _,?_⟩)
 rcases hp with⟨e1,rfl,rfl⟩|⟨e1,rfl,rfl⟩
 .have:=h1 e1;show K _ (gh m []);rw[b9,ab5];exact this
 .have:=h2 e1;show K _ (gh m [Bk.aO _ _]);rw[b9,Bk.kn];exact this
end Kn
def c77:LF:= ⟨42,[.tmp 6,.tmp 7],(.seq (.ai [qu 4 (.box 1),qu 5 (.box 2),qu 6 (.aH (qi 0)),qu 7 (.aH (qi 0))]) (.seq (.ai [qf 11 4 5,qw (.store 1 11 (qi (-1))),qf 12 6 5,qw (.store 1 12 (qi (-1)))]) (.seq (.bX [qm 14 0,qu 15 (.aY 14),qf 16 0 15,qf 17 0 16,ql 18 17,qL 19 9 5,qu 20 (qc 118 [18,19]),qm 13 20,qu 21 (.ext 13 0),qu 22 (.ext 13 1),qu 23 (.ext 13 2),qm 8 21,qm 9 22,qm 10 23] [(.cons 0 none (.cons 1 none (.cons 2 none (.cons 3 none (.cons 4 none (.cons 5 none (.cons 6 (some []) (.cons 7 none (.cons 8 none (.cons 9 none (.cons 10 none (.cons 11 none (.cons 12 none (.cons 13 none .nil))))))))))))))]) (.seq (.seq (.ai [qm 24 10,qu 25 (.aF .neq 24 (qi 0))]) (.cond 25 (.seq (.ai [qm 26 10,qu 6 (.aH (qi 0)),qm 7 26]) .ret) .skip)) (.seq (.ai [qm 28 8,qf 29 1 4,ql 30 29,qf 31 2 4,ql 32 31,qm 33 9,qu 34 (qc 119 [28,30,32,33]),qm 27 34,qu 35 (.ext 27 0),qu 36 (.ext 27 1),qm 8 35,qm 10 36]) (.seq (.ai [qm 37 9,qm 38 0,qm 39 8,qm 40 10,qu 41 (qc 76 [38,39,40]),qm 6 37,qm 7 41]) .ret))))))⟩
namespace Kn
def gy(o:Obj):Obj:={o with aD:= -1,aM:= -1}
def EZ(f:R4):CV:= .rv (.agg ((Uf f).map .aa))
def Am(l:List Obj)(f:R4)(n:Int):List Obj×Int:=di (bP.fI f.name) l f.cT (bP.cK f.name) n
def c7(k:Kr)(f:R4)(o:Obj):Kr×Int×Int:=
 if(aN k.l (gy o)).2.2≠0 then(k,0,(aN k.l (gy o)).2.2)
 else(dt k (Am (aN k.l (gy o)).1 f (aN k.l (gy o)).2.1).1 (Am (aN k.l (gy o)).1 f (aN k.l (gy o)).2.1).2,(aN k.l (gy o)).2.1,(Am (aN k.l (gy o)).1 f (aN k.l (gy o)).2.1).2)
structure Pq(o:Obj):Prop where
 sm:o.sm
 en:o.ak=[]
theorem Pq.gy{o:Obj}(h:Pq o):Pq (gy o):=⟨⟨h.sm.t,h.sm.d,h.sm.e,h.sm.q,h.sm.qd⟩,h.en⟩
theorem wo.make{l:List Obj}(h:wo l){o:Obj}(ho:Pq o):wo (aN l o).1:=by
 have key:∀l',(∀x,x∈l'->x∈l\/x=o)->l.length<=l'.length->l'.length<=4194304->wo l':=fun l' hm hl Bi=>by
  refine⟨⟨Bi,fun x hx=>?_⟩,fun x hx=>?_⟩
  .rcases hm x hx with hx|rfl
   .exact h.mL.2 x hx
   .exact ho.sm.mL
  .rcases hm x hx with hx|rfl
   .obtain⟨es,h1,h2,h3,h4⟩:=h.en x hx;exact⟨es,h1,h2,h3,fun e he=>⟨(h4 e he).1,by have:=(h4 e he).2;omega⟩⟩
   .exact⟨[],ho.en,List.Pairwise.nil,aG,aG⟩
 have hf:=h.mL.1;unfold aN;split
 .rename_i k _;refine key _ (fun x hx=>aaX hx) aG (by simpa using hf)
 .split
  .exact⟨⟨aG,aG⟩,aG⟩
  .refine key _ (fun x hx=>by simpa using hx) aG (by simp only[abO,aar,aby];omega)
theorem l77:bx Tryz.prog Tryz.f77=some c77:=by kernel_rfl
def Wy(a b:Int):CV:= .bK [cS a,cS b]
theorem Ct(k:Kr)(p:Nat)(hw:KW k p)(f:R4)(o:Obj)(ho:Pq o):
  body Tryz.prog c77 [.rv (.one (.ptr 0 0)),EZ f,o.cv] [xB k p] (TX fun r m=>r=Wy (c7 k f o).2.1 (c7 k f o).2.2/\m=[xB (c7 k f o).1 p]):=by
 have hs:=wo.make hw.Df ho.gy;refine zH k.l hw.mL (gy o) ?_;have hS:c7 k f o=if(aN k.l (gy o)).2.2≠0 then(k,0,(aN k.l (gy o)).2.2)
  else(dt k (Am (aN k.l (gy o)).1 f (aN k.l (gy o)).2.1).1 (Am (aN k.l (gy o)).1 f (aN k.l (gy o)).2.1).2,(aN k.l (gy o)).2.1,(Am (aN k.l (gy o)).1 f (aN k.l (gy o)).2.1).2):=rfl
 rw[hS];clear hS;generalize aN k.l (gy o)=M at hs⊢;obtain⟨l,n,e⟩:=M;refine⟨trivial,?_⟩;refine bG (fun he=>?_) (fun he=>?_)
 .rw[if_pos he];exact⟨_,_,View.o 3 [0] [] (.eq rfl .nil) (.pt rfl rfl (.eq rfl (bL _ _)) (.nil _)),rfl,rfl⟩
 .have he:e=0:=he;subst he;rw[if_neg aG];refine IU l hs f.cT n (bP.cK f.name) (bP.fI f.name) (fun h=>bP.z7 f.name h) ?_
  refine m8 k p hw.kr _ _ 0 rfl ?_;exact⟨_,_,View.o 3 [0] [] (.eq rfl .nil) (.pt rfl rfl (.eq rfl (bL _ _)) (.nil _)),rfl,rfl⟩
theorem sR(k:Kr)(p:Nat)(hw:KW k p)(f:R4)(o:Obj)(ho:Pq o){m:Mem}(id:Nat)(hb:dd m id=some (xB k p)){K:CV->Mem->Prop}(hK:K (Wy (c7 k f o).2.1 (c7 k f o).2.2) (bb m id (xB (c7 k f o).1 p))):au Tryz.prog 77 [.rv (.one (.ptr id 0)),EZ f,o.cv] m K:=
 GZ (args:=[EZ f,o.cv]) (fun _=>rfl) (fun _=>rfl)
  (bJ (aX Tryz.func77 l77 (Ct k p hw f o ho)) fun r m1⟨r',m',hv,hq⟩=>⟨r',m',hv,hq⟩) id hb hK
end Kn
end Go.Proofs.YtojhmadmlnfpcaaGreatDoor
