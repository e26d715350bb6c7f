/- Part 28 of 43: what the law stands on. -/
import Derived.Test.YtojhmadmlnfpcaaGreatDoorK16
import Derived.Test.YtojhmadmlnfpcaaGreatDoorK18
import Derived.Test.YtojhmadmlnfpcaaGreatDoorK27
import Derived.Shelf.Spec.SlicesInsert
import Derived.Lib.AppendZerosOnto
import Derived.Laws.NewBlocks
set_option linter.unusedVariables false
set_option linter.unusedSimpArgs false
set_option linter.unnecessarySimpa false
set_option maxRecDepth 100000
set_option maxHeartbeats 64000000
namespace Go.Proofs.YtojhmadmlnfpcaaGreatDoor
open Go.AM Go.ChangeShapes Go.WideShapes Go.ChangeAt Go.RowKit
open Go.Shelf Go.Lib
theorem ke{P:Program}(w:World)(dT sT ty elem:TypeId)(b o dLen dCap:Nat)(a:Addr)(sLen sCap:Nat)(cs:List Value)(hu:P.underlying dT=some (.slice elem))(hs:(P.info? elem).map (·.size)=some 2)(hn:Nat.min sLen dLen*2=cs.length)(hsrc:∀j v,cs[j]? =some v->w.cell? (a.add j)=some v)(hc:∀j,j<cs.length->(w.cell? ⟨b,o+j,none⟩).isSome=true)(hf:∀j,j<cs.length->w.frozen? ⟨b,o+j,none⟩=false)(h1:∀v∈cs,v.oneCell'=true):
  (Builtin.copy_ #[dT,sT] ty #[.slice (some ⟨b,o,none⟩) dLen dCap,.slice (some a) sLen sCap]).run P w= .ok (goInt (Nat.min sLen dLen)) (w.setCells b o cs):=by
 have hl:=run_loadCells_list (P:=P) w a cs hsrc;have hst:=run_storeCells_cells (P:=P) b o cs 0 w (by simpa using hc) (by simpa using hf) h1
 cases hq:P.info? elem with
 |none=>simp[hq]at hs
 |some i=>
  have hi:i.size=2:=by simpa[hq]using hs
  simp[Builtin.copy_,run_underlying hu,Builtin.lenOf,Builtin.firstCells,sizeOf,typeInfo,hq,hi,hn,hl,hst]
open Go.Shelf Go.Lib in
theorem AE(b off n c i vb voff vc:Nat)(cs vs:List Value)(w:World)(hi:i<n)(hroom:n+1<=c)(hc63:c<=9223372036854775807)(hvb:vb≠b)(hcl:cs.length=n*2)(hvl:vs.length=2)(hcs:∀j v,cs[j]? =some v->w.cell? ⟨b,off+j,none⟩=some v)(hsp:∀j,j<(n+1)*2->(w.cell? ⟨b,off+j,none⟩).isSome=true)(hfz:∀j,j<(n+1)*2->w.frozen? ⟨b,off+j,none⟩=false)(hvs:∀j v,vs[j]? =some v->w.cell? ⟨vb,voff+j,none⟩=some v)(h1c:∀v∈cs,v.oneCell'=true)(h1v:∀v∈vs,v.oneCell'=true)(tA tB:TypeId)(kA kB:Nat)(hsa:w.shape? vb=some (tA,kA))(hsb:w.shape? b=some (tB,kB))(hkB:kB≠0)(hfa:w.frozen? ⟨vb,voff,none⟩=false)(hfe:w.frozen? ⟨vb,kA,none⟩=false):
  Calls Tryz.prog 147 #[.slice (some ⟨b,off,none⟩) n c,.int .i64 i,.slice (some ⟨vb,voff,none⟩) 1 vc] w fun e w'=>
   e= .returned (.slice (some ⟨b,off,none⟩) (n+1) c)/\w'=(w.drew.setCells b (off+(i+1)*2) (cs.drop (i*2))).setCells b (off+i*2) vs:=by
 have hz2:¬((i:Int)=(n:Int)):=om;have hov:∀lb cb,(callFunc 158 #[.slice (some ⟨vb,voff,none⟩) 1 vc,.slice (some ⟨b,off+(i+1)*2,none⟩) lb cb]).run Tryz.prog w= .ok (.value (.bool false)) w:=fun lb cb=>by
  rw[run_callFunc_extern Tryz.func158 (by kernel_rfl) (by kernel_rfl) (by kernel_rfl) (e:=Extern.SlicesOverlaps.overlaps #[82,82] #[4]) (by kernel_rfl),
   Lib.run_overlaps_apart w 82 4 112 Tryz.underlying82 2 (fun w=>by kernel_rfl) ⟨vb,voff,none⟩ ⟨b,off+(i+1)*2,none⟩ 1 vc lb cb hvb tA tB kA kB hsa hsb hkB hfa hfe]
  rfl
 have hsz:(Tryz.prog.info? 112).map (·.size)=some 2:=by kernel_rfl
 have hdl:(cs.drop (i*2)).length=(n-i)*2:=by rw[aa4,hcl,acV]
 have hw1:IntKind.i64.wrap ((i:Int)+1)=(i:Int)+1:=by rw[IntKind.wrap_i64];omega
 have hw2:IntKind.i64.wrap ((n:Int)+1)=(n:Int)+1:=by rw[IntKind.wrap_i64];omega
 have hb1:(0:Int)<=(i:Int)+1:=om;have hin:i<=n:=om;have htn:((i:Int)+1).toNat=i+1:=om;have htn2:((n:Int)+1).toNat=n+1:=om;have hb2:¬(c=i+1):=om;have hb3:(i:Int)<=(n:Int)+1:=om;have hb4:¬(c=i):=om;have hcp1:∀ty dc sc,(Builtin.copy_ #[82,82] ty #[.slice (some ⟨b,off+(i+1)*2,none⟩) (n-i) dc,.slice (some ⟨b,off+i*2,none⟩) (n+1-i) sc]).run Tryz.prog w.drew= .ok (goInt ((n-i:Nat):Int)) (w.drew.setCells b (off+(i+1)*2) (cs.drop (i*2))):=fun ty dc sc=>by
  have hm:Nat.min (n+1-i) (n-i)=n-i:=by simp only[acW];split<;>omega
  have:=ke (P:=Tryz.prog) w.drew 82 82 ty 112 b (off+(i+1)*2) (n-i) dc ⟨b,off+i*2,none⟩ (n+1-i) sc (cs.drop (i*2)) Tryz.underlying82 hsz (by rw[hm,hdl])
   (fun j v hj=>by rw[Addr.add_lit,aaV];exact hcs (i*2+j) v (by rwa [aaZ]at hj))
   (fun j hj=>by rw[aaV];exact hsp _ (by rw[hdl]at hj;omega)) (fun j hj=>by rw[aaV];exact hfz _ (by rw[hdl]at hj;omega)) (fun v hv=>h1c v (abt hv))
  rwa [hm]at this
 obtain⟨W1,hW1⟩:∃W1,W1=w.drew.setCells b (off+(i+1)*2) (cs.drop (i*2)):=⟨_,rfl⟩;have hsp1:∀k,k<(n+1)*2->(W1.cell? ⟨b,off+k,none⟩).isSome=true:=fun k hk=>by rw[hW1];exact isSome_setCells b _ _ _ (fun j hj=>by rw[aaV];exact hsp _ (by rw[hdl]at hj;omega)) _ (hsp k hk)
 have hcp2:∀(W:World),(∀x,W.cell? x=W1.cell? x)->(∀x,W.frozen? x=W1.frozen? x)->∀ty dc,(Builtin.copy_ #[82,82] ty #[.slice (some ⟨b,off+i*2,none⟩) (n+1-i) dc,.slice (some ⟨vb,voff,none⟩) 1 vc]).run Tryz.prog W= .ok (goInt 1) (W.setCells b (off+i*2) vs):=fun W hWc hWf ty dc=>by
  have hm:Nat.min 1 (n+1-i)=1:=by simp only[acW];split<;>omega
  have:=ke (P:=Tryz.prog) W 82 82 ty 112 b (off+i*2) (n+1-i) dc ⟨vb,voff,none⟩ 1 vc vs Tryz.underlying82 hsz (by rw[hm,hvl])
   (fun j v hj=>by
    rw[Addr.add_lit,hWc,hW1,World.cell?_setCells_out b _ _ _ _ (fun h _=>absurd h hvb)]
    exact hvs j v hj)
   (fun j hj=>by rw[hWc,aaV];exact hsp1 _ om) (fun j hj=>by rw[hWf,hW1,World.frozen?_setCells,aaV];exact hfz _ om) h1v
  rwa [hm]at this
 subst hW1
 go_enter Tryz.func147,Tryz.ntmps147
 go_wp2_with (simp only[hov])
 have mixed:Tryz.prog.follows .mixedOrders=true:=by kernel_rfl
 go_region_law_o (refine step_copy_runI rfl _ _ 82 82 rfl _ _ (by simp[Act.eval,Act.put]) (by simp[Act.eval,Act.put]) (hcp1 _ _ _) ?_)
 go_wp2_with (at_builtin;refine wpList_copy_runI _ rfl _ _ 82 82 rfl _ _ rfl rfl (hcp2 _ (fun _=>rfl) (fun _=>rfl) _ _) ?_)
 go_ret
 exact⟨rfl,rfl⟩
def uy:Value:= .agg #[.string ⟨#[]⟩,.int .i64 0]
open Go.Shelf Go.Lib in
theorem CL(b off n c i vb voff vc:Nat)(cs vs:List Value)(w:World)(hi:i<n)(hnc:n<=c)(hroom:c<n+1)(hbig:(n+1)*24<=140737488355328)(hcl:cs.length=n*2)(hvl:vs.length=2)(hcs:∀j v,cs[j]? =some v->w.cell? ⟨b,off+j,none⟩=some v)(hvs:∀j v,vs[j]? =some v->w.cell? ⟨vb,voff+j,none⟩=some v)(h1c:∀v∈cs,v.oneCell'=true)(h1v:∀v∈vs,v.oneCell'=true):
  Calls Tryz.prog 147 #[.slice (some ⟨b,off,none⟩) n c,.int .i64 i,.slice (some ⟨vb,voff,none⟩) 1 vc] w fun e w'=>
   e= .returned (.slice (some ⟨w.heap.size,0,none⟩) (n+1) (grownCap w (n+1) c 112))/\
   w'=(((w.alloc (.cells ((cs.take (i*2)).toArray++Builtin.zeroCells uy.cells (n+1-i)++Builtin.zeroCells uy.cells (grownCap w (n+1) c 112-(n+1))) 112)).drew.setCells w.heap.size (i*2) vs).drew).setCells w.heap.size ((i+1)*2) (cs.drop (i*2)):=by
 obtain⟨i0,hi0,hz0,hzs,hzb⟩:∃i0,Tryz.prog.info? 112=some i0/\i0.zero=some uy/\i0.size=2/\i0.bytes=24:=by
  have h9:(Tryz.prog.info? 112).map (fun i=>(i.zero,i.size,i.bytes))=some (some uy,2,24):=by kernel_rfl
  cases hi0:Tryz.prog.info? 112 with
  |none=>rw[hi0]at h9;cases h9
  |some i0=>
   rw[hi0]at h9;simp only[aaC,aaA,acG]at h9;exact⟨i0,rfl,h9.1,h9.2.1,h9.2.2⟩
 have hz2:¬((i:Int)=(n:Int)):=om;have hz3:(c:Int)<(n:Int)+1:=om;have hsz:(Tryz.prog.info? 112).map (·.size)=some 2:=by rw[hi0];simp[hzs]
 have hbw:b<w.heap.size:=block_lt_of_cell (hcs 0 _ (aab om));have hvw:vb<w.heap.size:=block_lt_of_cell (hvs 0 _ (aab om));have hwn:IntKind.i64.wrap ((n:Int)+1)=(n:Int)+1:=by rw[IntKind.wrap_i64];omega
 have hwm:IntKind.i64.wrap ((n:Int)+1-(i:Int))=(n:Int)+1-(i:Int):=by rw[IntKind.wrap_i64];omega
 have hkk:(n:Int)+1-(i:Int)=((n+1-i:Nat):Int):=om;have hik:i+(n+1-i)=n+1:=om;have hold:(Builtin.firstCells i0.size i (.slice (some ⟨b,off,none⟩) i c)).run Tryz.prog w.drew= .ok (cs.take (i*2)).toArray w.drew:=by
  rw[hzs];exact run_firstCells_some w.drew 2 i ⟨b,off,none⟩ i c (cs.take (i*2)) (by rw[aaz];omega) (fun j v hj=>by
   rw[Addr.add_lit];rw[aaK]at hj;split at hj
   .exact hcs j v hj
   .cases hj)
 have hrz:∀ty,(Builtin.append_ #[82,3] ty #[.slice (some ⟨b,off,none⟩) i c,.int .i64 ((n:Int)+1-(i:Int))]).run Tryz.prog w=
   .ok (.slice (some ⟨w.heap.size,0,none⟩) (n+1) (grownCap w (n+1) c 112)) (w.drew.alloc (.cells ((cs.take (i*2)).toArray++Builtin.zeroCells uy.cells (n+1-i)++Builtin.zeroCells uy.cells (grownCap w (n+1) c 112-(n+1))) 112)):=fun ty=>by
  have h:=Lib.run_append_grow_zeros (P:=Tryz.prog) w 82 3 ty 112 i0 _ .i64 .i64 Tryz.underlying82 Tryz.underlying3 hi0 hz0 (some ⟨b,off,none⟩) i c (cs.take (i*2)) hold (n+1-i) om om om om (by rw[hzb];omega) (by rw[hzb,hik];exact growslice_fits hroom hbig)
  rw[hik]at h;rw[hkk];exact h
 obtain⟨G,hG⟩:∃G,G=grownCap w (n+1) c 112:=⟨_,rfl⟩;obtain⟨ROW,hROW⟩:∃ROW:Array Value,ROW=(cs.take (i*2)).toArray++Builtin.zeroCells uy.cells (n+1-i)++Builtin.zeroCells uy.cells (G-(n+1)):=⟨_,rfl⟩;rw[<-hG]at hrz⊢;rw[<-hROW]at hrz⊢;have hRl:(n+1)*2<=ROW.size:=by rw[hROW];simp[Builtin.zeroCells,Value.cells,uy];omega
 obtain⟨W1,hW1⟩:∃W1,W1=w.drew.alloc (.cells ROW 112):=⟨_,rfl⟩;rw[<-hW1]at hrz;have hN:∀j,j<(n+1)*2->(W1.cell? ⟨w.heap.size,j,none⟩).isSome=true:=fun j hj=>by rw[hW1,World.cell?_alloc_at (w:=w.drew) ROW _ w.heap.size j rfl,abc om];rfl
 have hNf:∀j,W1.frozen? ⟨w.heap.size,j,none⟩=false:=fun j=>by rw[hW1];exact World.frozen?_alloc_at (w:=w.drew) ROW _ w.heap.size j rfl
 have hOb:∀j v,w.cell? ⟨b,j,none⟩=some v->W1.cell? ⟨b,j,none⟩=some v:=fun j v h=>by rw[hW1,World.cell?_alloc_past (w:=w.drew) _ b j hbw];exact h
 have hOv:∀j v,w.cell? ⟨vb,j,none⟩=some v->W1.cell? ⟨vb,j,none⟩=some v:=fun j v h=>by rw[hW1,World.cell?_alloc_past (w:=w.drew) _ vb j hvw];exact h
 have hcpA:∀(W:World),(∀x,W.cell? x=W1.cell? x)->(∀x,W.frozen? x=W1.frozen? x)->∀ty dc,(Builtin.copy_ #[82,82] ty #[.slice (some ⟨w.heap.size,i*2,none⟩) (n+1-i) dc,.slice (some ⟨vb,voff,none⟩) 1 vc]).run Tryz.prog W= .ok (goInt 1) (W.setCells w.heap.size (i*2) vs):=fun W hWc hWf ty dc=>by
  have hm:Nat.min 1 (n+1-i)=1:=by simp only[acW];split<;>omega
  have:=ke (P:=Tryz.prog) W 82 82 ty 112 w.heap.size (i*2) (n+1-i) dc ⟨vb,voff,none⟩ 1 vc vs Tryz.underlying82 hsz (by rw[hm,hvl])
   (fun j v hj=>by rw[Addr.add_lit,hWc];exact hOv _ v (hvs j v hj))
   (fun j hj=>by rw[hWc];exact hN _ om) (fun j hj=>by rw[hWf];exact hNf _) h1v
  rwa [hm]at this
 have hGn:n+1<=G:=by rw[hG];exact grownCap_ge w _ _ _
 have hG63:G<=9223372036854775807:=by
  have:=grownCap_le_maxLen w (n+1) c 112 (by unfold maxLen;omega)
  rw[<-hG]at this;unfold maxLen at this;omega
 have hGi:¬(G=i):=om;have hGim:¬(G=i+1):=om;have hci:¬(c=i):=om;have hbN:b≠w.heap.size:=om;have hdl:(cs.drop (i*2)).length=(n-i)*2:=by rw[aa4,hcl,acV]
 have hcpB:∀(W:World),(∀x,W.cell? x=(W1.setCells w.heap.size (i*2) vs).cell? x)->(∀x,W.frozen? x=(W1.setCells w.heap.size (i*2) vs).frozen? x)->∀ty dc sc,(Builtin.copy_ #[82,82] ty #[.slice (some ⟨w.heap.size,(i+1)*2,none⟩) (n-i) dc,.slice (some ⟨b,off+i*2,none⟩) (n-i) sc]).run Tryz.prog W= .ok (goInt ((n-i:Nat):Int)) (W.setCells w.heap.size ((i+1)*2) (cs.drop (i*2))):=fun W hWc hWf ty dc sc=>by
  have hm:Nat.min (n-i) (n-i)=n-i:=by simp[acW]
  have:=ke (P:=Tryz.prog) W 82 82 ty 112 w.heap.size ((i+1)*2) (n-i) dc ⟨b,off+i*2,none⟩ (n-i) sc (cs.drop (i*2)) Tryz.underlying82 hsz (by rw[hm,hdl])
   (fun j v hj=>by
    rw[Addr.add_lit,hWc,World.cell?_setCells_out _ _ _ _ _ (fun h _=>absurd h hbN),aaV]
    exact hOb _ v (hcs (i*2+j) v (by rwa [aaZ]at hj)))
   (fun j hj=>by rw[hWc];exact isSome_setCells _ _ _ _ (fun t ht=>hN _ om) _ (hN _ om))
   (fun j hj=>by rw[hWf,World.frozen?_setCells];exact hNf _) (fun v hv=>h1c v (abt hv))
  rwa [hm]at this
 subst hW1;have hE1:∀x,((w.alloc (.cells ROW 112)).drew).cell? x=(w.drew.alloc (.cells ROW 112)).cell? x:=fun x=>rfl
 have hE2:∀x,((w.alloc (.cells ROW 112)).drew).frozen? x=(w.drew.alloc (.cells ROW 112)).frozen? x:=fun x=>rfl
 have hF1:∀x,(((w.alloc (.cells ROW 112)).drew.setCells w.heap.size (i*2) vs).drew).cell? x=((w.drew.alloc (.cells ROW 112)).setCells w.heap.size (i*2) vs).cell? x:=fun x=>rfl
 have hF2:∀x,(((w.alloc (.cells ROW 112)).drew.setCells w.heap.size (i*2) vs).drew).frozen? x=((w.drew.alloc (.cells ROW 112)).setCells w.heap.size (i*2) vs).frozen? x:=fun x=>rfl
 have hw1:IntKind.i64.wrap ((i:Int)+1)=(i:Int)+1:=by rw[IntKind.wrap_i64];omega
 have hb1:(0:Int)<=(i:Int)+1:=om;have hin:i<=n:=om;have htn:((i:Int)+1).toNat=i+1:=om;have hb3:(i:Int)<=(n:Int):=om;have hnn:n+1-(i+1)=n-i:=om;clear hkk hik hold hROW hG hRl;have mixed:Tryz.prog.follows .mixedOrders=true:=by kernel_rfl
 go_enter Tryz.func147,Tryz.ntmps147
 go_wp2_with (first
  |(at_builtin;refine Lib.wpList_append_run _ rfl _ _ _ _ rfl _ _ rfl rfl _ _ (hrz _) ?_)
  |(at_builtin;refine wpList_copy_runI _ rfl _ _ 82 82 rfl _ _ rfl rfl (hcpA _ hE1 hE2 _ _) ?_)
  |(at_builtin;refine wpList_copy_runI _ rfl _ _ 82 82 rfl _ _ rfl rfl (hcpB _ (fun _=>rfl) (fun _=>rfl) _ _ _) ?_))
 go_region_law_o (refine step_copy_runI rfl _ _ 82 82 rfl (.slice (some ⟨w.heap.size,(i+1)*2,none⟩) (n-i) (G-(i+1))) (.slice (some ⟨b,off+i*2,none⟩) (n-i) (c-i)) (by simp[Act.eval,Act.put]) (by simp[Act.eval,Act.put]) (hcpB _ hF1 hF2 3 (G-(i+1)) (c-i)) ?_)
 go_wp2
 go_ret
 exact⟨rfl,rfl⟩
end Go.Proofs.YtojhmadmlnfpcaaGreatDoor
namespace Go.Proofs.YtojhmadmlnfpcaaGreatDoor
open Go.AM Go.ChangeShapes Go.WideShapes Go.ChangeAt Go.RowKit
theorem iB{mk:Prop}{b:Nat}:∀(vs:List Value)(o:Nat)(w:World)(cur:Array Value),mf mk w b cur->o+vs.length<=cur.size->
  ∃gn,mf mk (w.setCells b o vs) b gn/\kJ w (w.setCells b o vs) b/\gn.size=cur.size/\∀k,gn[k]? =if o<=k/\k<o+vs.length then vs[k-o]? else cur[k]?
 | [],o,w,cur,hc,_=>⟨cur,hc,⟨fun _ _=>rfl,rfl,rfl,rfl,rfl⟩,rfl,fun k=>by rw[if_neg aG]⟩
 |v::r,o,w,cur,hc,hle=>by
  have D1:mf mk (w.setCell ⟨b,o,none⟩ v) b (cur.setIfInBounds o v):=by
   obtain⟨ty,fr,hb,hf⟩:=hc;refine⟨ty,fr,?_,by simpa using hf⟩
   simp[World.setCell,aba,hb]
  have zA:kJ w (w.setCell ⟨b,o,none⟩ v) b:=⟨fun b hb=>by simp[World.setCell,aba,Ne.symm hb],aG,rfl,rfl,rfl⟩
  simp only[aax]at hle;obtain⟨gn,h1,ht,h2,h3⟩:=iB (mk:=mk) r (o+1) _ _ D1 (by simp;omega)
  refine⟨gn,h1,⟨fun b hb=>(ht.heap b hb).trans (zA.heap b hb),ht.size.trans zA.size,ht.os,ht.tape,ht.output⟩,by rw[h2];simp,fun k=>?_⟩
  rw[h3 k];simp only[aax];by_cases hk:k=o
  .subst hk;rw[if_neg om,if_pos om,abz om];simp
  .by_cases pK:o+1<=k/\k<o+1+r.length
   .rw[if_pos pK,if_pos om];obtain⟨j,rfl⟩:∃j,k=o+1+j:=⟨k-(o+1),om⟩;rw[show o+1+j-(o+1)=j by omega,show o+1+j-o=j+1 by omega,aa9]
   .rw[if_neg pK,if_neg om,abQ om]
theorem Fw{S:List (List Dt)}{i:Nat}{cs:List CC}(h:(af S)[i]? =some cs):∃ds,S[i]? =some ds/\cs=ds.map .aa:=by simp only[af,aaf]at h;obtain⟨ds,h1,h2⟩:=aaD.1 h;exact⟨ds,h1,h2.symm⟩
theorem Hu{S:List (List Dt)}{e:List Dt}{i:Nat}(hi:i<S.length)(k:Nat)(ds:List Dt)(h:(S.take i++e::S.drop i)[k]? =some ds):(k<i/\S[k]? =some ds)\/(k=i/\ds=e)\/(i<k/\S[k-1]? =some ds):=by
 have hl:(S.take i).length=i:=by rw[aaz];omega
 rcases ach k i with h1|h1|h1
 .rw[aar om,aaK,if_pos h1]at h;exact .inl ⟨h1,h⟩
 .subst h1;rw[aan om,hl,ab9]at h;exact .inr (.inl ⟨rfl,by simpa using h.symm⟩)
 .rw[aan om,hl,show k-i=(k-1-i)+1 by omega,aa9,aaZ,show i+(k-1-i)=k-1 by omega]at h
  exact .inr (.inr ⟨h1,h⟩)
theorem Jl(S:List (List Dt))(e:List Dt)(i:Nat)(hi:i<S.length)(hl:S.length<=4194304):ar Tryz.prog 147 [.rv (.one (.row 0 2 0 none)),an .i64 (i:Nat),.rv (.one (.row 1 2 0 none))] [.row 2 (af S),.row 2 (af [e])]
  (fun r m=>r= .rv (.one (.row 2 2 0 none))/\m=[.bh,.bh,.row 2 (af (S.take i++e::S.drop i))]):=by
 refine⟨⟨Tryz.f147,Tryz.func147,rfl,by decide⟩,fun ρ w vs hM xS hd=>?_⟩
 obtain⟨v0,h0,d0⟩:=hd 0 _ rfl;obtain⟨v1,h1,d1⟩:=hd 1 _ rfl;obtain⟨v2,h2,d2⟩:=hd 2 _ rfl;have DC:vs=[v0,v1,v2]:=by
  match vs,xS with
  | [a,b,c],_=>simp at h0 h1 h2;rw[h0,h1,h2]
 have Ef:v1= .int .i64 (i:Nat):=(bM d1).1;obtain⟨_,_,_,adu,SG,a0,Tl,Tx⟩:=(show bz ρ w none (.row 0 2 0 none) v0 from d0);obtain⟨_,_,_,UO,Oz,a1,zF,Xn⟩:=(show bz ρ w none (.row 1 2 0 none) v2 from d2);obtain⟨Zl,_,_,Zm,Zn⟩:=hM.bk 0 _ rfl;obtain⟨Zo,_,_,UG,Zp⟩:=hM.bk 1 _ rfl;have VD:(ρ.aR (.au 0)).len=S.length:=by rw[<-Zl];simp[af]
 have VE:(ρ.aR (.au 1)).len=1:=by rw[<-Zo];simp[af]
 have MO:0<(ρ.aR (.au 0)).cap:=om;have GQ:0<(ρ.aR (.au 1)).cap:=om;obtain⟨MP,y6,B7,Pu⟩:=Zn MO;obtain⟨MQ,MR,UQ,Pv⟩:=Zp GQ;have Tx:=Tx MO;have Xn:=Xn GQ;have MS:Live ρ [.row 2 (af S),.row 2 (af [e])] (.au 0):=⟨_,rfl,aG,fun _=>MO⟩
 have VF:Live ρ [.row 2 (af S),.row 2 (af [e])] (.au 1):=⟨_,rfl,aG,fun _=>GQ⟩
 have Xk:(ρ.aR (.au 1)).b≠(ρ.aR (.au 0)).b:=fun he=>by have:=hM.inj _ _ VF MS he;cases this
 simp only[abY,abC,Nat.zero_mul,aca]at Tl zF Tx Xn;have VG:ρ.n=2:=hM.n;have Xo:=hM;generalize R0:ρ.aR (.au 0)=L0 at*
 generalize hL1:ρ.aR (.au 1)=L1 at*
 obtain⟨b,ax,len,cap⟩:=L0;obtain⟨vb,y7,adv,SH⟩:=L1;simp only at*
 subst VD VE;have SI:=y6.lt;have Ty:∀(k:Nat)(ds:List Dt),S[k]? =some ds->ds.length=2:=fun k ds hk=>by
  have:=Zm (ds.map .aa) (aag (i:=k) (by simp[af,hk]))
  simpa using this
 have mO:e.length=2:=by
  have:=UG (e.map .aa) (by simp[af])
  simpa using this
 obtain⟨cs,VH⟩:∃cs,cs=(MP.toList.drop ax).take (S.length*2):=⟨_,rfl⟩;have gZ:cs.length=S.length*2:=by have:=abv (xs:=MP);rw[VH,aaz,aa4];omega
 have Tm:∀j,j<S.length*2->cs[j]? =MP[ax+j]? :=fun j hj=>by rw[VH,aaK,if_pos hj,aaZ,abx]
 obtain⟨vv,VI⟩:∃vv,vv=(MQ.toList.drop y7).take 2:=⟨_,rfl⟩;have AF:vv.length=2:=by have:=abv (xs:=MQ);rw[VI,aaz,aa4];omega
 have hvg:∀j,j<2->vv[j]? =MQ[y7+j]? :=fun j hj=>by rw[VI,aaK,if_pos hj,aaZ,abx]
 have MT:∀(k:Nat)(ds:List Dt)(j:Nat)(d:Dt),S[k]? =some ds->ds[j]? =some d->∃u,cs[k*2+j]? =some u/\dz ρ.S w d u:=fun k ds j d hk hj=>by
  have fP:=(aac.1 hk).1;have mU:=(aac.1 hj).1;rw[Ty k ds hk]at mU;obtain⟨u,hu,cn⟩:=Pu k (ds.map .aa) j (.aa d) (by simp[af,hk]) (by simp[hj])
  exact⟨u,by rw[Tm _ om,<-aaV];exact hu,cn⟩
 have Q6:∀(j:Nat)(d:Dt),e[j]? =some d->∃u,vv[j]? =some u/\dz ρ.S w d u:=fun j d hj=>by
  have mU:=(aac.1 hj).1;rw[mO]at mU;obtain⟨u,hu,cn⟩:=Pv 0 (e.map .aa) j (.aa d) (by simp[af]) (by simp[hj])
  exact⟨u,by rw[hvg _ mU];simpa using hu,cn⟩
 have Q7:∀v∈cs,v.oneCell'=true:=fun v hv=>by
  obtain⟨j,hj⟩:=aam hv;have mU:=(aac.1 hj).1;have hk:j/2<S.length:=om;have DA:=Ty (j/2) S[j/2] (aab hk);obtain⟨u,hu,cn⟩:=MT (j/2) S[j/2] (j%2) (S[j/2][j%2]'(by omega)) (aab hk) (aab _)
  rw[show j/2*2+j%2=j by omega,hj]at hu
  cases hu;exact cn.one
 have Q8:∀v∈vv,v.oneCell'=true:=fun v hv=>by
  obtain⟨j,hj⟩:=aam hv;have mU:=(aac.1 hj).1;obtain⟨u,hu,cn⟩:=Q6 j (e[j]'(by omega)) (aab _)
  rw[hj]at hu;cases hu;exact cn.one
 have zT:∀(j:Nat)(v:Value),cs[j]? =some v->w.cell? ⟨b,ax+j,none⟩=some v:=fun j v hj=>by
  rw[y6.cell,<-Tm j (by rw[<-gZ];exact(aac.1 hj).1)];exact hj
 have zU:∀(j:Nat)(v:Value),vv[j]? =some v->w.cell? ⟨vb,y7+j,none⟩=some v:=fun j v hj=>by
  rw[MR.cell,<-hvg j (by rw[<-AF];exact(aac.1 hj).1)];exact hj
 have eY:vs.toArray= #[.slice (some ⟨b,ax,none⟩) S.length cap,.int .i64 (i:Nat),.slice (some ⟨vb,y7,none⟩) 1 SH]:=by rw[DC,Tl,Ef,zF,Tx,Xn]
 rw[eY];have CM:∀(w':World)(l:AM.xA)(gn:Array Value),iT ρ w (ρ.move l fun _ _=>.sub 0 0 0) w'->(∀k,k<i*2->gn[l.ax+k]? =cs[k]?)->(∀k,k<2->gn[l.ax+(i*2+k)]? =vv[k]?)->(∀k,k<(S.length-i)*2->gn[l.ax+((i+1)*2+k)]? =cs[i*2+k]?)->
   ∀(k:Nat)DK(j:Nat)c,(af (S.take i++e::S.drop i))[k]? =some DK->DK[j]? =some c->∃u,gn[l.ax+k*2+j]? =some u/\bz (ρ.move l fun _ _=>.sub 0 0 0) w' (some (ρ.n,k,j)) c u:=by
  intro w' l gn g q1 q2 q3 k DK j c hk hj;obtain⟨ds,BJ,rfl⟩:=Fw hk;rw[aaf]at hj;obtain⟨d,xP,rfl⟩:=aaD.1 hj;have mU:=(aac.1 xP).1;rcases Hu hi k ds BJ with⟨vY,hS⟩|⟨rfl,rfl⟩|⟨vY,hS⟩
  .rw[Ty k ds hS]at mU;obtain⟨u,hu,cn⟩:=MT k ds j d hS xP;exact⟨u,by rw[aaV,q1 _ om];exact hu,cn.mono g.S g.heap⟩
  .rw[mO]at mU;obtain⟨u,hu,cn⟩:=Q6 j d xP;exact⟨u,by rw[aaV,q2 _ mU];exact hu,cn.mono g.S g.heap⟩
  .rw[Ty _ ds hS]at mU;obtain⟨u,hu,cn⟩:=MT (k-1) ds j d hS xP;have fP:=(aac.1 hS).1;refine⟨u,?_,cn.mono g.S g.heap⟩;rw[aaV,show k*2+j=(i+1)*2+((k-1-i)*2+j) by omega,q3 _ om,show i*2+((k-1-i)*2+j)=(k-1)*2+j by omega]
   exact hu
 have G8:(af (S.take i++e::S.drop i)).length=S.length+1:=by simp[af];omega
 have DD:∀cs,cs∈af (S.take i++e::S.drop i)->cs.length=2:=fun DK hm=>by
  obtain⟨k,hk⟩:=aam hm;obtain⟨ds,BJ,rfl⟩:=Fw hk;rw[aad];rcases Hu hi k ds BJ with⟨_,hS⟩|⟨_,rfl⟩|⟨_,hS⟩
  .exact Ty _ _ hS
  .exact mO
  .exact Ty _ _ hS
 have iN:∀(k:Nat)DK(j:Nat)s el,(af (S.take i++e::S.drop i))[k]? =some DK->DK[j]? =some (.gX s el)->False:=fun k DK j s el hk hj=>by obtain⟨ds,_,rfl⟩:=Fw hk;rw[aaf]at hj;obtain⟨d,_,h⟩:=aaD.1 hj;cases h
 have oP:([.bh,.bh]:Mem).length=([.row 2 (af S),.row 2 (af [e])]:Mem).length:=rfl;have kT:∀(id:Nat)bk,([.bh,.bh]:Mem)[id]? =some bk->bk= .bh\/(([.row 2 (af S),.row 2 (af [e])]:Mem)[id]? =some bk/\¬(id=0\/id=1)):=fun id bk h=>by
  match id,h with
  |0,h=>cases h;exact .inl rfl
  |1,h=>cases h;exact .inl rfl
  |id+2,h=>simp at h
 have CN:∀k,(cs.drop (i*2))[k]? =cs[i*2+k]? :=fun k=>by rw[aaZ]
 have lJ:(cs.drop (i*2)).length=(S.length-i)*2:=by rw[aa4,gZ,acV]
 by_cases ns:S.length+1<=cap
 ·
  obtain⟨ty0,fr0,hh0,ady,adz,adA⟩:=id y6;obtain⟨ty1,fr1,hh1,adD,adE,VJ⟩:=id MR;have VJ:fr1.2<=MQ.size:=by
   rcases VJ with h|h
   .cases h
   .exact h
  have zS:∀j,j<(S.length+1)*2->(w.cell? ⟨b,ax+j,none⟩).isSome=true:=fun j hj=>by rw[y6.cell,abc om];rfl
  have x6:=AE b ax S.length cap i vb y7 SH cs vv w hi ns (by unfold maxLen at SG;omega) Xk gZ AF zT zS (fun j hj=>y6.iU om) zU Q7 Q8 ty1 ty0 MQ.size MP.size
   (by simp[World.shape?,hh1]) (by simp[World.shape?,hh0]) om (MR.iU om) (by simp only[World.frozen?,hh1];simp;omega)
  refine x6.mono ?_;rintro e' w' ⟨rfl,rfl⟩;obtain⟨c1,D1,zA,Xh,jM⟩:=iB (cs.drop (i*2)) (ax+(i+1)*2) w.drew MP (y6.dK rfl) (by rw[lJ];omega)
  obtain⟨c2,vp,vn,Qx,pK⟩:=iB vv (ax+i*2) _ c1 D1 (by rw[AF];omega)
  have hT:kJ w ((w.drew.setCells b (ax+(i+1)*2) (cs.drop (i*2))).setCells b (ax+i*2) vv) b:=
   ⟨fun x hx=>((vn.heap x hx).trans (zA.heap x hx)).trans rfl,(vn.size.trans zA.size).trans rfl,(vn.os.trans zA.os).trans rfl,(vn.tape.trans zA.tape).trans rfl,(vn.output.trans zA.output).trans rfl⟩
  obtain⟨lV,hX⟩:=hM.move (w':=(w.drew.setCells b (ax+(i+1)*2) (cs.drop (i*2))).setCells b (ax+i*2) vv) (m1:=[.bh,.bh]) (D:=fun id=>id=0\/id=1) (esz:=2) (E:=af (S.take i++e::S.drop i)) (l:=⟨b,ax,S.length+1,cap⟩) (src:=fun _ _=>.sub 0 0 0)
   oP kT (by rw[hT.size];exact aaj _) hT.os hT.tape hT.output (fun x hx eW=>hT.heap x (fun he=>eW 0 (.inl rfl) MS (by rw[R0];exact he.symm)))
   (fun _=>⟨by rw[hT.size];exact SI,.inr ⟨0,.inl rfl,MS,by rw[R0]⟩⟩) G8 ns SG DD
   (fun g _=>⟨c2,vp,by rw[Qx,Xh];exact B7,CM _ ⟨b,ax,S.length+1,cap⟩ c2 g (fun k hk=>by
    show c2[ax+k]? =_;rw[pK,if_neg (by rw[AF];omega),jM,if_neg om,Tm _ om]) (fun k hk=>by
    show c2[ax+(i*2+k)]? =_;rw[pK,if_pos (by rw[AF];omega),show ax+(i*2+k)-(ax+i*2)=k by omega]) (fun k hk=>by
    show c2[ax+((i+1)*2+k)]? =_;rw[pK,if_neg (by rw[AF];omega),jM,if_pos (by rw[lJ];omega),show ax+((i+1)*2+k)-(ax+(i+1)*2)=k by omega,CN])⟩)
   (fun k DK j s el hk hj=>(iN k DK j s el hk hj).elim) (fun _ _ _ _ _⟨DK,s,el,hk,hj⟩ _=>(iN _ DK _ s el hk hj).elim)
  refine⟨_,_,_,_,rfl,⟨rfl,rfl⟩,lV,?_,hX⟩;refine⟨by simp[bL.move,VG],?_⟩
  have zG:(ρ.move ⟨b,ax,S.length+1,cap⟩ fun _ _=>.sub 0 0 0).aR (.au 2)=⟨b,ax,S.length+1,cap⟩:=by simp[bL.move,VG]
  rw[zG];exact⟨aao _,aaj _,ns,SG,_,rfl,fun _=>aG⟩
 ·
  have x6:=CL b ax S.length cap i vb y7 SH cs vv w hi om om om gZ AF zT zU Q7 Q8;refine x6.mono ?_;rintro e' w' ⟨rfl,rfl⟩;have Zk:S.length+1<=grownCap w (S.length+1) cap 112:=grownCap_ge w _ _ _;have hGm:grownCap w (S.length+1) cap 112<=maxLen:=grownCap_le_maxLen w (S.length+1) cap 112 (by unfold maxLen;omega)
  generalize grownCap w (S.length+1) cap 112=G at*
  obtain⟨ROW,Fv⟩:∃ROW:Array Value,ROW=(cs.take (i*2)).toArray++Builtin.zeroCells uy.cells (S.length+1-i)++Builtin.zeroCells uy.cells (G-(S.length+1)):=⟨_,rfl⟩;rw[<-Fv];have hRs:ROW.size=G*2:=by rw[Fv];simp[Builtin.zeroCells,Value.cells,uy,aaz,gZ];omega
  have hRg:∀k,k<i*2->ROW[k]? =cs[k]? :=fun k hk=>by
   rw[Fv,Array.append_assoc,abK (by simp[gZ];omega)]
   simp[aaK,hk]
  have hA:eG w (w.alloc (.cells ROW 112)).drew:=(eG.alloc w _).trans (eG.drew _);obtain⟨c1,D1,zA,Xh,jM⟩:=iB (mk:=(2:Nat)=1) vv (i*2) (w.alloc (.cells ROW 112)).drew ROW ((mf.new w ROW 112).dK rfl) (by rw[AF];omega)
  obtain⟨c2,vp,vn,Qx,pK⟩:=iB (mk:=(2:Nat)=1) (cs.drop (i*2)) ((i+1)*2) ((w.alloc (.cells ROW 112)).drew.setCells w.heap.size (i*2) vv).drew c1 (D1.dK rfl) (by rw[lJ];omega)
  have dI:w.heap.size<((((w.alloc (.cells ROW 112)).drew.setCells w.heap.size (i*2) vv).drew).setCells w.heap.size ((i+1)*2) (cs.drop (i*2))).heap.size:=by rw[vn.size];show w.heap.size<((w.alloc (.cells ROW 112)).drew.setCells w.heap.size (i*2) vv).heap.size;rw[zA.size];show w.heap.size<(w.alloc (.cells ROW 112)).heap.size;simp
  obtain⟨lV,hX⟩:=hM.move (w':=(((w.alloc (.cells ROW 112)).drew.setCells w.heap.size (i*2) vv).drew).setCells w.heap.size ((i+1)*2) (cs.drop (i*2))) (m1:=[.bh,.bh]) (D:=fun id=>id=0\/id=1) (esz:=2) (E:=af (S.take i++e::S.drop i)) (l:=⟨w.heap.size,0,S.length+1,G⟩) (src:=fun _ _=>.sub 0 0 0)
   oP kT (acu dI) ((vn.os.trans zA.os).trans rfl) ((vn.tape.trans zA.tape).trans rfl) ((vn.output.trans zA.output).trans rfl)
   (fun x hx _=>((vn.heap x om).trans (zA.heap x om)).trans (hA.heap x hx))
   (fun _=>⟨dI,.inl (aaj _)⟩) G8 Zk hGm DD
   (fun g _=>⟨c2,vp,by rw[Qx,Xh,hRs];show 0+G*2<=G*2;omega,CM _ ⟨w.heap.size,0,S.length+1,G⟩ c2 g (fun k hk=>by
    show c2[0+k]? =_;rw[aaS,pK,if_neg om,jM,if_neg om,hRg _ hk]) (fun k hk=>by
    show c2[0+(i*2+k)]? =_;rw[aaS,pK,if_neg om,jM,if_pos (by rw[AF];omega),show i*2+k-i*2=k by omega]) (fun k hk=>by
    show c2[0+((i+1)*2+k)]? =_;rw[aaS,pK,if_pos (by rw[lJ];omega),show(i+1)*2+k-(i+1)*2=k by omega,CN])⟩)
   (fun k DK j s el hk hj=>(iN k DK j s el hk hj).elim) (fun _ _ _ _ _⟨DK,s,el,hk,hj⟩ _=>(iN _ DK _ s el hk hj).elim)
  refine⟨_,_,_,_,rfl,⟨rfl,rfl⟩,lV,?_,hX⟩;refine⟨by simp[bL.move,VG],?_⟩
  have zG:(ρ.move ⟨w.heap.size,0,S.length+1,G⟩ fun _ _=>.sub 0 0 0).aR (.au 2)=⟨w.heap.size,0,S.length+1,G⟩:=by simp[bL.move,VG]
  rw[zG];exact⟨aao _,aaj _,Zk,hGm,_,rfl,fun _=>aG⟩
def Obj.ob(o:Obj):Ob:=⟨o.ah,o.data,o.ak,o.target,o.aJ,.sl 4 (o.aj.map bw.enc),o.aL,o.am,o.up⟩
theorem SJ(l:List Obj):cX l=OZ (l.map Obj.ob):=by show Dt.sl 9 (l.map Obj.enc)=Dt.sl 9 ((l.map Obj.ob).map Ob.enc);rw[abd];rfl
def jw(l:List Obj)(n p:Nat)(name:ByteArray):List Obj:=match l[n]? with
 |none=>l
 |some o=>match (l.set n {o with ak:=(iK (name,(p:Int)) (o.ak.map nu)).map fq})[p]? with
  |none=>l
  |some q=>(l.set n {o with ak:=(iK (name,(p:Int)) (o.ak.map nu)).map fq}).set p {q with am:=IntKind.i64.wrap (q.am+1),up:=if q.ah=2 then(n:Int)else q.up}
def y8(b:Bool)(o:Obj)(y:List Obj)(name:ByteArray):List Obj×Int:=
 if o.ah≠2 then([],11)else if o.am=0 then([],6)else if b=false then([],7)else if fx (o.ak.map nu) name>=0 then([],7)else if o.ak.length>=8 then([],15)else(y,0)
def o5(l:List Obj)(k ah:Int):Bool:=oe (l.map Obj.ob) k ah
def de(b:Bool)(l:List Obj)(cL:Int)(name:ByteArray)(bv:Int):List Obj×Int:=
 if o5 l cL 0=true then(if o5 l bv 0=true then(match l[cL.toNat]? with
  |none=>([],6)
  |some o=>y8 b o (jw l cL.toNat bv.toNat name) name)else([],6))else([],6)
theorem wx{l:List Obj}{k:Int}(h:k<0):o5 l k 0=false:=by
 unfold o5 oe;rw[decide_eq_false (by omega:¬k>=0)];rfl
theorem wy{l:List Obj}{k:Int}(h:k>=(l.length:Int)):o5 l k 0=false:=by
 unfold o5 oe;rw[aad,decide_eq_false (by omega:¬k<(l.length:Int))];simp
theorem wz{l:List Obj}{n:Nat}(hn:n<l.length)(h:l[n].ah=0):o5 l n 0=false:=by unfold o5 oe;rw[aaw,aaf,aab hn];have:l[n].ob.ah=0:=h;simp[this]
theorem wA{l:List Obj}{n:Nat}(hn:n<l.length)(h:l[n].ah≠0):o5 l n 0=true:=by unfold o5 oe;rw[aaw,aaf,aab hn,aad];have:l[n].ob.ah≠0:=h;simp[this,hn]
theorem iC{l:List Obj}{k:Nat}(h:k<l.length):cy (l.map Obj.enc) (k:Nat)=some [.val (.int .i64 l[k].ah),.sl 1 l[k].data,.sl 2 l[k].ak,.val (.string l[k].target),.val (.int .i64 l[k].aJ),.sl 4 (l[k].aj.map bw.enc),.val (.int .i64 l[k].aL),.val (.int .i64 l[k].am),.val (.int .i64 l[k].up)]:=by rw[bl,aaf,aab h];rfl
theorem VK{σ:Nat->Nat}{m:Mem}{Z:Nat->Prop}{a a' b b':RV}(h1:xH σ m Z a a')(h2:xH σ m Z b b'):qv σ m Z (.bF [a,b]) (.bF [a',b']):=by
 refine .bF rfl fun i r r' h3 h4=>?_
 match i with
 |0=>cases h3;cases h4;exact h1
 |1=>cases h3;cases h4;exact h2
 |n+2=>simp at h3
theorem VL{σ:Nat->Nat}{m:Mem}{Z:Nat->Prop}{a a' b b' c c':RV}(h1:xH σ m Z a a')(h2:xH σ m Z b b')(h0:xH σ m Z c c'):qv σ m Z (.bF [a,b,c]) (.bF [a',b',c']):=by
 refine .bF rfl fun i r r' h3 h4=>?_
 match i with
 |0=>cases h3;cases h4;exact h1
 |1=>cases h3;cases h4;exact h2
 |2=>cases h3;cases h4;exact h0
 |n+3=>simp at h3
theorem oW{p Q:Nat}{l:List Obj}{k:Nat}{o:Obj}(hk:k<l.length):ba (bP p Q 0 l) k (j9 p Q k o)=bP p Q 0 (l.set k o):=by
 rw[bn];apply aa7;intro i;rw[fO,aaS];by_cases h:k=i
 .subst h;rw[aal (by rw[fN];exact hk),aal hk]
  rfl
 .rw[aas h,aas h,fO,aaS]
theorem Fx{p Q Q':Nat}{l:List Obj}{o:Obj}(hp:l[p]? =some o):ba (bP p Q 0 l) p (j9 p Q' p o)=bP p Q' 0 l:=by
 have gE:=(aac.1 hp).1;rw[bn];apply aa7;intro i;rw[fO,aaS];by_cases h:p=i
 .subst h;rw[aal (by rw[fN];exact gE),hp]
  rfl
 .rw[aas h,fO,aaS];cases l[i]? with
  |none=>rfl
  |some x=>
   have h2:¬i=p:=fun e=>h e.symm
   simp only[aaC,j9,if_neg h2]
theorem Hv{m:Mem}{Z:Nat->Prop}{pp:Option Nat}{id p Q:Nat}{l:List Obj}{o:Obj}{E:List (List Dt)}(hz:Z id)(hm:m[id]? =some (.row 9 (bP p Q 0 l)))(hzq:Z Q)(hq:m[Q]? =some (.row 2 (af E)))(hp:l[p]? =some o):
  dP m Z pp (.row id 9 0 none) (cX (l.set p {o with ak:=E})):=by
 have gE:=(aac.1 hp).1;have key:∀(i:Nat)cs es,(bP p Q 0 l)[i]? =some cs->((l.set p {o with ak:=E}).map Obj.enc)[i]? =some es->jO m Z (some id) cs es:=by
  intro i cs es h1 h2;rw[fO,aaS]at h1;rw[aaf]at h2;by_cases h:p=i
  .subst h;rw[aal gE]at h2;rw[hp]at h1;cases h1;cases h2;simp only[j9,if_pos,Obj.enc];exact .cons (.aa _) (.cons (.aa _) (.cons (dP.eE hzq hq 0 none) (.cons (.aa _) (.cons (.aa _) (.cons (.aa _) (.cons (.aa _) (.cons (.aa _) (.cons (.aa _) .nil))))))))
  .rw[aas h]at h2;cases hx:l[i]? with
   |none=>rw[hx]at h1;cases h1
   |some x=>
    rw[hx]at h1 h2;cases h1;cases h2;have h3:¬i=p:=fun e=>h e.symm
    simp only[j9,if_neg h3,Obj.enc];exact .cons (.aa _) (.cons (.aa _) (.cons (.aa _) (.cons (.aa _) (.cons (.aa _) (.cons (.aa _) (.cons (.aa _) (.cons (.aa _) (.cons (.aa _) .nil))))))))
 exact dP.row id 9 0 none _ _ hz hm (by rw[fN,aad,aaE]) (fun i cs es h1 h2=>(key i cs es h1 h2).len) (fun i cs es j c d h1 h2 h3 h4=>(key i cs es h1 h2).get j c d h3 h4)
theorem Jm(S:List (List Dt))(e:List Dt)(i:Nat)(hi:i<=S.length)(hl:S.length<=4194304){m:Mem}{K:CV->Mem->Prop}(a b:Nat)(DH:gp [a,b]=true)(aC:fm m.length [a,b]=true)(ha:df m a=some (.row 2 (af S)))(hb:df m b=some (.row 2 (af [e])))(h:K (.rv (.one (.row m.length 2 0 none))) (dn m [a,b] [.bh,.bh,.row 2 (af (S.take i++e::S.drop i))])):ar Tryz.prog 147 [.rv (.one (.row a 2 0 none)),an .i64 (i:Nat),.rv (.one (.row b 2 0 none))] m K:=by
 by_cases nU:i<S.length
 .refine bC [a,b] m.length rfl rfl DH aC (args0:=[.rv (.one (.row 0 2 0 none)),an .i64 (i:Nat),.rv (.one (.row 1 2 0 none))]) rfl (m0:=[.row 2 (af S),.row 2 (af [e])]) (fun i b' hi=>?_) (Jl S e i nU hl) (fun r1 m1 hr=>?_)
  .match i,hi with
   |0,hi=>cases hi;exact .inr ⟨fun h=>h,_,by rw[aX]at ha;exact ha,.bV rfl⟩
   |1,hi=>cases hi;exact .inr ⟨fun h=>h,_,by rw[aX]at hb;exact hb,.bV rfl⟩
   |n+2,hi=>simp at hi
  .obtain⟨rfl,rfl⟩:=hr;refine⟨aG,?_⟩;show K (.rv (.one (.row (m.length+(2-2)) 2 0 none))) (dn m [a,b] [.bh,.bh,.row 2 ((af (S.take i++e::S.drop i)).map (fun cs=>cs.map (CC.aQ (sg [a,b] m.length))))])
   rw[gU];exact h
 .have:i=S.length:=om;subst this;refine SD S e hl a b DH aC ha hb ?_;rw[aaO,List.drop_length]at h;exact h
end Go.Proofs.YtojhmadmlnfpcaaGreatDoor
