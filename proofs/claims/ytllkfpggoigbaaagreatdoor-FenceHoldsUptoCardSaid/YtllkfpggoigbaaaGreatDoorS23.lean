/- Part 23 of 35. -/
import Derived.Test.YtllkfpggoigbaaaGreatDoorS15
import Derived.Test.YtllkfpggoigbaaaGreatDoorS17
import Derived.Test.YtllkfpggoigbaaaGreatDoorS22
import Derived.Shelf.Spec.SlicesInsert
import Derived.Lib.AppendZerosOnto
import Derived.Laws.NewBlocks
set_option linter.unusedVariables false
set_option linter.unusedSimpArgs false
set_option linter.unnecessarySimpa false
set_option maxRecDepth 100000
set_option maxHeartbeats 0
namespace Go.Proofs.YtllkfpggoigbaaaGreatDoor
open Proofs.Tryz
open Go.AM Go.ChangeShapes Go.WideShapes Go.ChangeAt Go.RowKit
open Go.Shelf Go.Lib
theorem lE{P:Program}(w:World)(dT sT ty elem:TypeId)(b o dLen dCap:Nat)(a:Addr)(sLen sCap:Nat)(cs:List Value)(hu:P.underlying dT=some (.slice elem))(hs:(P.info? elem).map (·.size)=some 2)(hn:Nat.min sLen dLen*2=cs.length)(hsrc:∀j v,cs[j]? =some v->w.cell? (a.add j)=some v)(hc:∀j,j<cs.length->(w.cell? ⟨b,o+j,none⟩).isSome=true)(hf:∀j,j<cs.length->w.frozen? ⟨b,o+j,none⟩=false)(h1:∀v∈cs,v.oneCell'=true):
  (Builtin.copy_ #[dT,sT] ty #[.slice (some ⟨b,o,none⟩) dLen dCap,.slice (some a) sLen sCap]).run P w= .ok (goInt (Nat.min sLen dLen)) (w.setCells b o cs):=by
 have hl:=run_loadCells_list (P:=P) w a cs hsrc;have hst:=run_storeCells_cells (P:=P) b o cs 0 w (by simpa using hc) (by simpa using hf) h1
 cases hq:P.info? elem with
 |none=>simp[hq]at hs
 |some i=>
  have hi:i.size=2:=by simpa[hq]using hs
  simp[Builtin.copy_,run_underlying hu,Builtin.lenOf,Builtin.firstCells,sizeOf,typeInfo,hq,hi,hn,hl,hst]
open Go.Shelf Go.Lib in
theorem Cx(b off n c i vb voff vc:Nat)(cs vs:List Value)(w:World)(hi:i<n)(hroom:n+1<=c)(hc63:c<=9223372036854775807)(hvb:vb≠b)(hcl:cs.length=n*2)(hvl:vs.length=2)(hcs:∀j v,cs[j]? =some v->w.cell? ⟨b,off+j,none⟩=some v)(hsp:∀j,j<(n+1)*2->(w.cell? ⟨b,off+j,none⟩).isSome=true)(hfz:∀j,j<(n+1)*2->w.frozen? ⟨b,off+j,none⟩=false)(hvs:∀j v,vs[j]? =some v->w.cell? ⟨vb,voff+j,none⟩=some v)(h1c:∀v∈cs,v.oneCell'=true)(h1v:∀v∈vs,v.oneCell'=true)(tA tB:TypeId)(kA kB:Nat)(hsa:w.shape? vb=some (tA,kA))(hsb:w.shape? b=some (tB,kB))(hkB:kB≠0)(hfa:w.frozen? ⟨vb,voff,none⟩=false)(hfe:w.frozen? ⟨vb,kA,none⟩=false):
  Calls prog 150 #[.slice (some ⟨b,off,none⟩) n c,.int .i64 i,.slice (some ⟨vb,voff,none⟩) 1 vc] w λe w'=>
   e= .returned (.slice (some ⟨b,off,none⟩) (n+1) c)/\w'=(w.drew.setCells b (off+(i+1)*2) (cs.drop (i*2))).setCells b (off+i*2) vs:=by
 have hz2:¬((i:Int)=(n:Int)):=om;have hov:∀lb cb,(callFunc 161 #[.slice (some ⟨vb,voff,none⟩) 1 vc,.slice (some ⟨b,off+(i+1)*2,none⟩) lb cb]).run prog w= .ok (.value (.bool false)) w:=λlb cb=>by
  rw[run_callFunc_extern func161 (by kernel_rfl) (by kernel_rfl) (by kernel_rfl) (e:=Extern.SlicesOverlaps.overlaps #[52,52] #[4]) (by kernel_rfl),
   Lib.run_overlaps_apart w 52 4 64 underlying52 2 (λw=>by kernel_rfl) ⟨vb,voff,none⟩ ⟨b,off+(i+1)*2,none⟩ 1 vc lb cb hvb tA tB kA kB hsa hsb hkB hfa hfe]
  rfl
 have dQ:(prog.info? 64).map (·.size)=some 2:=by kernel_rfl
 have hdl:(cs.drop (i*2)).length=(n-i)*2:=by rw[abZ,hcl,afn]
 have hw1:IntKind.i64.wrap ((i:Int)+1)=(i:Int)+1:=by rw[IntKind.wrap_i64];omega
 have hw2:IntKind.i64.wrap ((n:Int)+1)=(n:Int)+1:=by rw[IntKind.wrap_i64];omega
 have hb1:(0:Int)<=(i:Int)+1:=om;have hin:i<=n:=om;have htn:((i:Int)+1).toNat=i+1:=om;have htn2:((n:Int)+1).toNat=n+1:=om;have hb2:¬(c=i+1):=om;have hb3:(i:Int)<=(n:Int)+1:=om;have hb4:¬(c=i):=om;have hcp1:∀ty dc sc,(Builtin.copy_ #[52,52] ty #[.slice (some ⟨b,off+(i+1)*2,none⟩) (n-i) dc,.slice (some ⟨b,off+i*2,none⟩) (n+1-i) sc]).run prog w.drew= .ok (goInt ((n-i:Nat):Int)) (w.drew.setCells b (off+(i+1)*2) (cs.drop (i*2))):=λty dc sc=>by
  have hm:Nat.min (n+1-i) (n-i)=n-i:=by simp only[afo];split<;>omega
  have:=lE (P:=prog) w.drew 52 52 ty 64 b (off+(i+1)*2) (n-i) dc ⟨b,off+i*2,none⟩ (n+1-i) sc (cs.drop (i*2)) underlying52 dQ (by rw[hm,hdl])
   (λj v hj=>by rw[Addr.add_lit,abX];exact hcs (i*2+j) v (by rwa [ab5]at hj))
   (λj hj=>by rw[abX];exact hsp _ (by rw[hdl]at hj;omega)) (λj hj=>by rw[abX];exact hfz _ (by rw[hdl]at hj;omega)) (λv hv=>h1c v (acB hv))
  rwa [hm]at this
 obtain⟨W1,hW1⟩:∃W1,W1=w.drew.setCells b (off+(i+1)*2) (cs.drop (i*2)):=⟨_,rfl⟩;have hsp1:∀k,k<(n+1)*2->(W1.cell? ⟨b,off+k,none⟩).isSome=true:=λk hk=>by rw[hW1];exact isSome_setCells b _ _ _ (λj hj=>by rw[abX];exact hsp _ (by rw[hdl]at hj;omega)) _ (hsp k hk)
 have hcp2:∀(W:World),(∀x,W.cell? x=W1.cell? x)->(∀x,W.frozen? x=W1.frozen? x)->∀ty dc,(Builtin.copy_ #[52,52] ty #[.slice (some ⟨b,off+i*2,none⟩) (n+1-i) dc,.slice (some ⟨vb,voff,none⟩) 1 vc]).run prog W= .ok (goInt 1) (W.setCells b (off+i*2) vs):=λW hWc hWf ty dc=>by
  have hm:Nat.min 1 (n+1-i)=1:=by simp only[afo];split<;>omega
  have:=lE (P:=prog) W 52 52 ty 64 b (off+i*2) (n+1-i) dc ⟨vb,voff,none⟩ 1 vc vs underlying52 dQ (by rw[hm,hvl])
   (λj v hj=>by
    rw[Addr.add_lit,hWc,hW1,World.cell?_setCells_out b _ _ _ _ (λh _=>absurd h hvb)]
    exact hvs j v hj)
   (λj hj=>by rw[hWc,abX];exact hsp1 _ om) (λj hj=>by rw[hWf,hW1,World.frozen?_setCells,abX];exact hfz _ om) h1v
  rwa [hm]at this
 subst hW1
 go_enter func150,ntmps150
 go_wp2_with (simp only[hov])
 have mixed:prog.follows .mixedOrders=true:=by kernel_rfl
 go_region_law_o (refine step_copy_runI rfl _ _ 52 52 rfl _ _ (by simp[Act.eval,Act.put]) (by simp[Act.eval,Act.put]) (hcp1 _ _ _) ?_)
 go_wp2_with (at_builtin;refine wpList_copy_runI _ rfl _ _ 52 52 rfl _ _ rfl rfl (hcp2 _ (λ_=>rfl) (λ_=>rfl) _ _) ?_)
 go_ret
 exact⟨rfl,rfl⟩
def wz:Value:= .agg #[.string ⟨#[]⟩,.int .i64 0]
open Go.Shelf Go.Lib in
theorem Er(b off n c i vb voff vc:Nat)(cs vs:List Value)(w:World)(hi:i<n)(hnc:n<=c)(hroom:c<n+1)(hbig:(n+1)*24<=140737488355328)(hcl:cs.length=n*2)(hvl:vs.length=2)(hcs:∀j v,cs[j]? =some v->w.cell? ⟨b,off+j,none⟩=some v)(hvs:∀j v,vs[j]? =some v->w.cell? ⟨vb,voff+j,none⟩=some v)(h1c:∀v∈cs,v.oneCell'=true)(h1v:∀v∈vs,v.oneCell'=true):
  Calls prog 150 #[.slice (some ⟨b,off,none⟩) n c,.int .i64 i,.slice (some ⟨vb,voff,none⟩) 1 vc] w λe w'=>
   e= .returned (.slice (some ⟨w.heap.size,0,none⟩) (n+1) (grownCap w (n+1) c 64))/\
   w'=(((w.alloc (.cells ((cs.take (i*2)).toArray++Builtin.zeroCells wz.cells (n+1-i)++Builtin.zeroCells wz.cells (grownCap w (n+1) c 64-(n+1))) 64)).drew.setCells w.heap.size (i*2) vs).drew).setCells w.heap.size ((i+1)*2) (cs.drop (i*2)):=by
 obtain⟨i0,hi0,hz0,hzs,hzb⟩:∃i0,prog.info? 64=some i0/\i0.zero=some wz/\i0.size=2/\i0.bytes=24:=by
  have h9:(prog.info? 64).map (λi=>(i.zero,i.size,i.bytes))=some (some wz,2,24):=by kernel_rfl
  cases hi0:prog.info? 64 with
  |none=>rw[hi0]at h9;cases h9
  |some i0=>
   rw[hi0]at h9;simp only[aa3,abe,Prod.mk.injEq]at h9;exact⟨i0,rfl,h9.1,h9.2.1,h9.2.2⟩
 have hz2:¬((i:Int)=(n:Int)):=om;have hz3:(c:Int)<(n:Int)+1:=om;have dQ:(prog.info? 64).map (·.size)=some 2:=by rw[hi0];simp[hzs]
 have hbw:b<w.heap.size:=block_lt_of_cell (hcs 0 _ (wy om));have hvw:vb<w.heap.size:=block_lt_of_cell (hvs 0 _ (wy om));have hwn:IntKind.i64.wrap ((n:Int)+1)=(n:Int)+1:=by rw[IntKind.wrap_i64];omega
 have hwm:IntKind.i64.wrap ((n:Int)+1-(i:Int))=(n:Int)+1-(i:Int):=by rw[IntKind.wrap_i64];omega
 have hkk:(n:Int)+1-(i:Int)=((n+1-i:Nat):Int):=om;have hik:i+(n+1-i)=n+1:=om;have hold:(Builtin.firstCells i0.size i (.slice (some ⟨b,off,none⟩) i c)).run prog w.drew= .ok (cs.take (i*2)).toArray w.drew:=by
  rw[hzs];exact run_firstCells_some w.drew 2 i ⟨b,off,none⟩ i c (cs.take (i*2)) (by rw[aa8];omega) (λj v hj=>by
   rw[Addr.add_lit];rw[abK]at hj;split at hj
   .exact hcs j v hj
   .cases hj)
 have hrz:∀ty,(Builtin.append_ #[52,3] ty #[.slice (some ⟨b,off,none⟩) i c,.int .i64 ((n:Int)+1-(i:Int))]).run prog w=
   .ok (.slice (some ⟨w.heap.size,0,none⟩) (n+1) (grownCap w (n+1) c 64)) (w.drew.alloc (.cells ((cs.take (i*2)).toArray++Builtin.zeroCells wz.cells (n+1-i)++Builtin.zeroCells wz.cells (grownCap w (n+1) c 64-(n+1))) 64)):=λty=>by
  have h:=Lib.run_append_grow_zeros (P:=prog) w 52 3 ty 64 i0 _ .i64 .i64 underlying52 underlying3 hi0 hz0 (some ⟨b,off,none⟩) i c (cs.take (i*2)) hold (n+1-i) om om om om (by rw[hzb];omega) (by rw[hzb,hik];exact growslice_fits hroom hbig)
  rw[hik]at h;rw[hkk];exact h
 obtain⟨G,hG⟩:∃G,G=grownCap w (n+1) c 64:=⟨_,rfl⟩;obtain⟨ROW,hROW⟩:∃ROW:Array Value,ROW=(cs.take (i*2)).toArray++Builtin.zeroCells wz.cells (n+1-i)++Builtin.zeroCells wz.cells (G-(n+1)):=⟨_,rfl⟩;rw[<-hG]at hrz|-;rw[<-hROW]at hrz|-;have hRl:(n+1)*2<=ROW.size:=by rw[hROW];simp[Builtin.zeroCells,Value.cells,wz];omega
 obtain⟨W1,hW1⟩:∃W1,W1=w.drew.alloc (.cells ROW 64):=⟨_,rfl⟩;rw[<-hW1]at hrz;have hN:∀j,j<(n+1)*2->(W1.cell? ⟨w.heap.size,j,none⟩).isSome=true:=λj hj=>by rw[hW1,World.cell?_alloc_at (w:=w.drew) ROW _ w.heap.size j rfl,acg om];rfl
 have hNf:∀j,W1.frozen? ⟨w.heap.size,j,none⟩=false:=λj=>by rw[hW1];exact World.frozen?_alloc_at (w:=w.drew) ROW _ w.heap.size j rfl
 have hOb:∀j v,w.cell? ⟨b,j,none⟩=some v->W1.cell? ⟨b,j,none⟩=some v:=λj v h=>by rw[hW1,World.cell?_alloc_past (w:=w.drew) _ b j hbw];exact h
 have hOv:∀j v,w.cell? ⟨vb,j,none⟩=some v->W1.cell? ⟨vb,j,none⟩=some v:=λj v h=>by rw[hW1,World.cell?_alloc_past (w:=w.drew) _ vb j hvw];exact h
 have hcpA:∀(W:World),(∀x,W.cell? x=W1.cell? x)->(∀x,W.frozen? x=W1.frozen? x)->∀ty dc,(Builtin.copy_ #[52,52] ty #[.slice (some ⟨w.heap.size,i*2,none⟩) (n+1-i) dc,.slice (some ⟨vb,voff,none⟩) 1 vc]).run prog W= .ok (goInt 1) (W.setCells w.heap.size (i*2) vs):=λW hWc hWf ty dc=>by
  have hm:Nat.min 1 (n+1-i)=1:=by simp only[afo];split<;>omega
  have:=lE (P:=prog) W 52 52 ty 64 w.heap.size (i*2) (n+1-i) dc ⟨vb,voff,none⟩ 1 vc vs underlying52 dQ (by rw[hm,hvl])
   (λj v hj=>by rw[Addr.add_lit,hWc];exact hOv _ v (hvs j v hj))
   (λj hj=>by rw[hWc];exact hN _ om) (λj hj=>by rw[hWf];exact hNf _) h1v
  rwa [hm]at this
 have hGn:n+1<=G:=by rw[hG];exact grownCap_ge w _ _ _
 have hG63:G<=9223372036854775807:=by
  have:=grownCap_le_maxLen w (n+1) c 64 (by unfold maxLen;omega)
  rw[<-hG]at this;unfold maxLen at this;omega
 have hGi:¬(G=i):=om;have hGim:¬(G=i+1):=om;have hci:¬(c=i):=om;have hbN:b≠w.heap.size:=om;have hdl:(cs.drop (i*2)).length=(n-i)*2:=by rw[abZ,hcl,afn]
 have hcpB:∀(W:World),(∀x,W.cell? x=(W1.setCells w.heap.size (i*2) vs).cell? x)->(∀x,W.frozen? x=(W1.setCells w.heap.size (i*2) vs).frozen? x)->∀ty dc sc,(Builtin.copy_ #[52,52] ty #[.slice (some ⟨w.heap.size,(i+1)*2,none⟩) (n-i) dc,.slice (some ⟨b,off+i*2,none⟩) (n-i) sc]).run prog W= .ok (goInt ((n-i:Nat):Int)) (W.setCells w.heap.size ((i+1)*2) (cs.drop (i*2))):=λW hWc hWf ty dc sc=>by
  have hm:Nat.min (n-i) (n-i)=n-i:=by simp[afo]
  have:=lE (P:=prog) W 52 52 ty 64 w.heap.size ((i+1)*2) (n-i) dc ⟨b,off+i*2,none⟩ (n-i) sc (cs.drop (i*2)) underlying52 dQ (by rw[hm,hdl])
   (λj v hj=>by
    rw[Addr.add_lit,hWc,World.cell?_setCells_out _ _ _ _ _ (λh _=>absurd h hbN),abX]
    exact hOb _ v (hcs (i*2+j) v (by rwa [ab5]at hj)))
   (λj hj=>by rw[hWc];exact isSome_setCells _ _ _ _ (λt ht=>hN _ om) _ (hN _ om))
   (λj hj=>by rw[hWf,World.frozen?_setCells];exact hNf _) (λv hv=>h1c v (acB hv))
  rwa [hm]at this
 subst hW1;have hE1:∀x,((w.alloc (.cells ROW 64)).drew).cell? x=(w.drew.alloc (.cells ROW 64)).cell? x:=λx=>rfl
 have hE2:∀x,((w.alloc (.cells ROW 64)).drew).frozen? x=(w.drew.alloc (.cells ROW 64)).frozen? x:=λx=>rfl
 have hF1:∀x,(((w.alloc (.cells ROW 64)).drew.setCells w.heap.size (i*2) vs).drew).cell? x=((w.drew.alloc (.cells ROW 64)).setCells w.heap.size (i*2) vs).cell? x:=λx=>rfl
 have hF2:∀x,(((w.alloc (.cells ROW 64)).drew.setCells w.heap.size (i*2) vs).drew).frozen? x=((w.drew.alloc (.cells ROW 64)).setCells w.heap.size (i*2) vs).frozen? x:=λx=>rfl
 have hw1:IntKind.i64.wrap ((i:Int)+1)=(i:Int)+1:=by rw[IntKind.wrap_i64];omega
 have hb1:(0:Int)<=(i:Int)+1:=om;have hin:i<=n:=om;have htn:((i:Int)+1).toNat=i+1:=om;have hb3:(i:Int)<=(n:Int):=om;have hnn:n+1-(i+1)=n-i:=om;clear hkk hik hold hROW hG hRl;have mixed:prog.follows .mixedOrders=true:=by kernel_rfl
 go_enter func150,ntmps150
 go_wp2_with (first
  |(at_builtin;refine Lib.wpList_append_run _ rfl _ _ _ _ rfl _ _ rfl rfl _ _ (hrz _) ?_)
  |(at_builtin;refine wpList_copy_runI _ rfl _ _ 52 52 rfl _ _ rfl rfl (hcpA _ hE1 hE2 _ _) ?_)
  |(at_builtin;refine wpList_copy_runI _ rfl _ _ 52 52 rfl _ _ rfl rfl (hcpB _ (λ_=>rfl) (λ_=>rfl) _ _ _) ?_))
 go_region_law_o (refine step_copy_runI rfl _ _ 52 52 rfl (.slice (some ⟨w.heap.size,(i+1)*2,none⟩) (n-i) (G-(i+1))) (.slice (some ⟨b,off+i*2,none⟩) (n-i) (c-i)) (by simp[Act.eval,Act.put]) (by simp[Act.eval,Act.put]) (hcpB _ hF1 hF2 3 (G-(i+1)) (c-i)) ?_)
 go_wp2
 go_ret
 exact⟨rfl,rfl⟩
end Go.Proofs.YtllkfpggoigbaaaGreatDoor
namespace Go.Proofs.YtllkfpggoigbaaaGreatDoor
open Proofs.Tryz
open Go.AM Go.ChangeShapes Go.WideShapes Go.ChangeAt Go.RowKit
theorem jo{mk:Prop}{b:Nat}:∀(vs:List Value)(o:Nat)(w:World)(cur:Array Value),m8 mk w b cur->o+vs.length<=cur.size->
  ∃iq,m8 mk (w.setCells b o vs) b iq/\m9 w (w.setCells b o vs) b/\iq.size=cur.size/\∀k,iq[k]? =if o<=k/\k<o+vs.length then vs[k-o]? else cur[k]?
 | [],o,w,cur,hc,_=>⟨cur,hc,⟨λ_ _=>rfl,rfl,rfl,rfl,rfl⟩,rfl,λk=>by rw[if_neg aD]⟩
 |v::r,o,w,cur,hc,hle=>by
  have FO:m8 mk (w.setCell ⟨b,o,none⟩ v) b (cur.setIfInBounds o v):=by
   obtain⟨ty,fr,hb,hf⟩:=hc;refine⟨ty,fr,?_,by simpa using hf⟩
   simp[World.setCell,ace,hb]
  have BE:m9 w (w.setCell ⟨b,o,none⟩ v) b:=⟨λb hb=>by simp[World.setCell,ace,Ne.symm hb],aD,rfl,rfl,rfl⟩
  simp only[aa2]at hle;obtain⟨iq,h1,ht,h2,h3⟩:=jo (mk:=mk) r (o+1) _ _ FO (by simp;omega)
  refine⟨iq,h1,⟨λb hb=>(ht.heap b hb).trans (BE.heap b hb),ht.size.trans BE.size,ht.os,ht.tape,ht.output⟩,by rw[h2];simp,λk=>?_⟩
  rw[h3 k];simp only[aa2];by_cases hk:k=o
  .subst hk;rw[if_neg om,if_pos om,adD om];simp
  .by_cases lS:o+1<=k/\k<o+1+r.length
   .rw[if_pos lS,if_pos om];obtain⟨j,rfl⟩:∃j,k=o+1+j:=⟨k-(o+1),om⟩;rw[show o+1+j-(o+1)=j by omega,show o+1+j-o=j+1 by omega,acr]
   .rw[if_neg lS,if_neg om,aec om]
theorem Hh{S:List (List Dt)}{i:Nat}{cs:List CC}(h:(aa S)[i]? =some cs):∃ds,S[i]? =some ds/\cs=ds.map .ai:=by simp only[aa,Qu]at h;obtain⟨ds,h1,h2⟩:=abA.1 h;exact⟨ds,h1,h2.symm⟩
theorem JB{S:List (List Dt)}{e:List Dt}{i:Nat}(hi:i<S.length)(k:Nat)(ds:List Dt)(h:(S.take i++e::S.drop i)[k]? =some ds):(k<i/\S[k]? =some ds)\/(k=i/\ds=e)\/(i<k/\S[k-1]? =some ds):=by
 have hl:(S.take i).length=i:=by rw[aa8];omega
 rcases adZ k i with h1|h1|h1
 .rw[aaW om,abK,if_pos h1]at h;exact .inl ⟨h1,h⟩
 .subst h1;rw[aaS om,hl,adv]at h;exact .inr (.inl ⟨rfl,by simpa using h.symm⟩)
 .rw[aaS om,hl,show k-i=(k-1-i)+1 by omega,acr,ab5,show i+(k-1-i)=k-1 by omega]at h
  exact .inr (.inr ⟨h1,h⟩)
theorem LL(S:List (List Dt))(e:List Dt)(i:Nat)(hi:i<S.length)(hl:S.length<=4194304):ap prog 150 [.rv (.one (.row 0 2 0 none)),al .i64 (i:Nat),.rv (.one (.row 1 2 0 none))] [.row 2 (aa S),.row 2 (aa [e])]
  (λr m=>r= .rv (.one (.row 2 2 0 none))/\m=[.aE,.aE,.row 2 (aa (S.take i++e::S.drop i))]):=by
 refine⟨⟨f150,func150,rfl,by decide⟩,λρ w vs hM vz hd=>?_⟩
 obtain⟨v0,h0,d0⟩:=hd 0 _ rfl;obtain⟨v1,h1,d1⟩:=hd 1 _ rfl;obtain⟨v2,h2,d2⟩:=hd 2 _ rfl;have Fq:vs=[v0,v1,v2]:=by
  match vs,vz with
  | [a,b,c],_=>simp at h0 h1 h2;rw[h0,h1,h2]
 have Dp:v1= .int .i64 (i:Nat):=(bY d1).1;obtain⟨_,_,_,ajm,WL,a0,C4,SL⟩:=(show bH ρ w none (.row 0 2 0 none) v0 from d0);obtain⟨_,_,_,Zp,RG,a1,zG,ha1⟩:=(show bH ρ w none (.row 1 2 0 none) v2 from d2);obtain⟨aeE,_,_,aeF,aeG⟩:=hM.bk 0 _ rfl;obtain⟨aeH,_,_,Zg,aeI⟩:=hM.bk 1 _ rfl;have aan:(ρ.aV (.ay 0)).len=S.length:=by rw[<-aeE];simp[aa]
 have aao:(ρ.aV (.ay 1)).len=1:=by rw[<-aeH];simp[aa]
 have Pp:0<(ρ.aV (.ay 0)).cap:=om;have IK:0<(ρ.aV (.ay 1)).cap:=om;obtain⟨Pq,A5,DO,SN⟩:=aeG Pp;obtain⟨Pr,Ps,Zr,SO⟩:=aeI IK;have SL:=SL Pp;have ha1:=ha1 IK;have Pu:Live ρ [.row 2 (aa S),.row 2 (aa [e])] (.ay 0):=⟨_,rfl,aD,λ_=>Pp⟩
 have aap:Live ρ [.row 2 (aa S),.row 2 (aa [e])] (.ay 1):=⟨_,rfl,aD,λ_=>IK⟩
 have hvb:(ρ.aV (.ay 1)).b≠(ρ.aV (.ay 0)).b:=λhe=>by have:=hM.inj _ _ aap Pu he;cases this
 simp only[adB,acY,Nat.zero_mul,adS]at C4 zG SL ha1;have Ri:ρ.n=2:=hM.n;have ack:=hM;generalize VZ:ρ.aV (.ay 0)=L0 at*
 generalize hL1:ρ.aV (.ay 1)=L1 at*
 obtain⟨b,aB,len,cap⟩:=L0;obtain⟨vb,A6,ajn,WM⟩:=L1;simp only at*
 subst aan aao;have WN:=A5.lt;have U4:∀(k:Nat)(ds:List Dt),S[k]? =some ds->ds.length=2:=λk ds hk=>by
  have:=aeF (ds.map .ai) (Vm (i:=k) (by simp[aa,hk]))
  simpa using this
 have pb:e.length=2:=by
  have:=Zg (e.map .ai) (by simp[aa])
  simpa using this
 obtain⟨cs,aaq⟩:∃cs,cs=(Pq.toList.drop aB).take (S.length*2):=⟨_,rfl⟩;have gF:cs.length=S.length*2:=by have:=acF (xs:=Pq);rw[aaq,aa8,abZ];omega
 have RY:∀j,j<S.length*2->cs[j]? =Pq[aB+j]? :=λj hj=>by rw[aaq,abK,if_pos hj,ab5,adx]
 obtain⟨vv,aar⟩:∃vv,vv=(Pr.toList.drop A6).take 2:=⟨_,rfl⟩;have Cy:vv.length=2:=by have:=acF (xs:=Pr);rw[aar,aa8,abZ];omega
 have hvg:∀j,j<2->vv[j]? =Pr[A6+j]? :=λj hj=>by rw[aar,abK,if_pos hj,ab5,adx]
 have Pv:∀(k:Nat)(ds:List Dt)(j:Nat)(d:Dt),S[k]? =some ds->ds[j]? =some d->∃u,cs[k*2+j]? =some u/\dx ρ.S w d u:=λk ds j d hk hj=>by
  have dK:=(Lw.1 hk).1;have f4:=(Lw.1 hj).1;rw[U4 k ds hk]at f4;obtain⟨u,hu,cI⟩:=SN k (ds.map .ai) j (.ai d) (by simp[aa,hk]) (by simp[hj])
  exact⟨u,by rw[RY _ om,<-abX];exact hu,cI⟩
 have U5:∀(j:Nat)(d:Dt),e[j]? =some d->∃u,vv[j]? =some u/\dx ρ.S w d u:=λj d hj=>by
  have f4:=(Lw.1 hj).1;rw[pb]at f4;obtain⟨u,hu,cI⟩:=SO 0 (e.map .ai) j (.ai d) (by simp[aa]) (by simp[hj])
  exact⟨u,by rw[hvg _ f4];simpa using hu,cI⟩
 have U6:∀v∈cs,v.oneCell'=true:=λv hv=>by
  obtain⟨j,hj⟩:=aak hv;have f4:=(Lw.1 hj).1;have hk:j/2<S.length:=om;have Fp:=U4 (j/2) S[j/2] (wy hk);obtain⟨u,hu,cI⟩:=Pv (j/2) S[j/2] (j%2) (S[j/2][j%2]'(by omega)) (wy hk) (wy _)
  rw[show j/2*2+j%2=j by omega,hj]at hu
  cases hu;exact cI.one
 have U7:∀v∈vv,v.oneCell'=true:=λv hv=>by
  obtain⟨j,hj⟩:=aak hv;have f4:=(Lw.1 hj).1;obtain⟨u,hu,cI⟩:=U5 j (e[j]'(by omega)) (wy _)
  rw[hj]at hu;cases hu;exact cI.one
 have BW:∀(j:Nat)(v:Value),cs[j]? =some v->w.cell? ⟨b,aB+j,none⟩=some v:=λj v hj=>by
  rw[A5.cell,<-RY j (by rw[<-gF];exact(Lw.1 hj).1)];exact hj
 have BX:∀(j:Nat)(v:Value),vv[j]? =some v->w.cell? ⟨vb,A6+j,none⟩=some v:=λj v hj=>by
  rw[Ps.cell,<-hvg j (by rw[<-Cy];exact(Lw.1 hj).1)];exact hj
 have dR:vs.toArray= #[.slice (some ⟨b,aB,none⟩) S.length cap,.int .i64 (i:Nat),.slice (some ⟨vb,A6,none⟩) 1 WM]:=by rw[Fq,C4,Dp,zG,SL,ha1]
 rw[dR];have Es:∀(w':World)(l:AM.zA)(iq:Array Value),jC ρ w (ρ.move l λ_ _=>.sub 0 0 0) w'->(∀k,k<i*2->iq[l.aB+k]? =cs[k]?)->(∀k,k<2->iq[l.aB+(i*2+k)]? =vv[k]?)->(∀k,k<(S.length-i)*2->iq[l.aB+((i+1)*2+k)]? =cs[i*2+k]?)->
   ∀(k:Nat)FA(j:Nat)c,(aa (S.take i++e::S.drop i))[k]? =some FA->FA[j]? =some c->∃u,iq[l.aB+k*2+j]? =some u/\bH (ρ.move l λ_ _=>.sub 0 0 0) w' (some (ρ.n,k,j)) c u:=by
  intro w' l iq g q1 q2 q3 k FA j c hk hj;obtain⟨ds,F3,rfl⟩:=Hh hk;rw[Qu]at hj;obtain⟨d,wI,rfl⟩:=abA.1 hj;have f4:=(Lw.1 wI).1;rcases JB hi k ds F3 with⟨UK,hS⟩|⟨rfl,rfl⟩|⟨UK,hS⟩
  .rw[U4 k ds hS]at f4;obtain⟨u,hu,cI⟩:=Pv k ds j d hS wI;exact⟨u,by rw[abX,q1 _ om];exact hu,cI.mono g.S g.heap⟩
  .rw[pb]at f4;obtain⟨u,hu,cI⟩:=U5 j d wI;exact⟨u,by rw[abX,q2 _ f4];exact hu,cI.mono g.S g.heap⟩
  .rw[U4 _ ds hS]at f4;obtain⟨u,hu,cI⟩:=Pv (k-1) ds j d hS wI;have dK:=(Lw.1 hS).1;refine⟨u,?_,cI.mono g.S g.heap⟩;rw[abX,show k*2+j=(i+1)*2+((k-1-i)*2+j) by omega,q3 _ om,show i*2+((k-1-i)*2+j)=(k-1)*2+j by omega]
   exact hu
 have I5:(aa (S.take i++e::S.drop i)).length=S.length+1:=by simp[aa];omega
 have Fr:∀cs,cs∈aa (S.take i++e::S.drop i)->cs.length=2:=λFA hm=>by
  obtain⟨k,hk⟩:=aak hm;obtain⟨ds,F3,rfl⟩:=Hh hk;rw[O9];rcases JB hi k ds F3 with⟨_,hS⟩|⟨_,rfl⟩|⟨_,hS⟩
  .exact U4 _ _ hS
  .exact pb
  .exact U4 _ _ hS
 have jJ:∀(k:Nat)FA(j:Nat)s el,(aa (S.take i++e::S.drop i))[k]? =some FA->FA[j]? =some (.iJ s el)->False:=λk FA j s el hk hj=>by obtain⟨ds,_,rfl⟩:=Hh hk;rw[Qu]at hj;obtain⟨d,_,h⟩:=abA.1 hj;cases h
 have qC:([.aE,.aE]:Mem).length=([.row 2 (aa S),.row 2 (aa [e])]:Mem).length:=rfl;have lh:∀(id:Nat)bk,([.aE,.aE]:Mem)[id]? =some bk->bk= .aE\/(([.row 2 (aa S),.row 2 (aa [e])]:Mem)[id]? =some bk/\¬(id=0\/id=1)):=λid bk h=>by
  match id,h with
  |0,h=>cases h;exact .inl rfl
  |1,h=>cases h;exact .inl rfl
  |id+2,h=>simp at h
 have Et:∀k,(cs.drop (i*2))[k]? =cs[i*2+k]? :=λk=>by rw[ab5]
 have lH:(cs.drop (i*2)).length=(S.length-i)*2:=by rw[abZ,gF,afn]
 by_cases oZ:S.length+1<=cap
 ·
  obtain⟨ty0,fr0,hh0,ajq,ajr,ajs⟩:=id A5;obtain⟨ty1,fr1,hh1,ajv,ajw,aas⟩:=id Ps;have aas:fr1.2<=Pr.size:=by
   rcases aas with h|h
   .cases h
   .exact h
  have zO:∀j,j<(S.length+1)*2->(w.cell? ⟨b,aB+j,none⟩).isSome=true:=λj hj=>by rw[A5.cell,acg om];rfl
  have zV:=Cx b aB S.length cap i vb A6 WM cs vv w hi oZ (by unfold maxLen at WL;omega) hvb gF Cy BW zO (λj hj=>A5.ry om) BX U6 U7 ty1 ty0 Pr.size Pq.size
   (by simp[World.shape?,hh1]) (by simp[World.shape?,hh0]) om (Ps.ry om) (by simp only[World.frozen?,hh1];simp;omega)
  refine zV.mono ?_;rintro e' w' ⟨rfl,rfl⟩;obtain⟨c1,FO,BE,M8,k7⟩:=jo (cs.drop (i*2)) (aB+(i+1)*2) w.drew Pq (A5.cO rfl) (by rw[lH];omega)
  obtain⟨c2,xw,xt,Ux,lS⟩:=jo vv (aB+i*2) _ c1 FO (by rw[Cy];omega)
  have hT:m9 w ((w.drew.setCells b (aB+(i+1)*2) (cs.drop (i*2))).setCells b (aB+i*2) vv) b:=
   ⟨λx hx=>((xt.heap x hx).trans (BE.heap x hx)).trans rfl,(xt.size.trans BE.size).trans rfl,(xt.os.trans BE.os).trans rfl,(xt.tape.trans BE.tape).trans rfl,(xt.output.trans BE.output).trans rfl⟩
  obtain⟨nA,hX⟩:=hM.move (w':=(w.drew.setCells b (aB+(i+1)*2) (cs.drop (i*2))).setCells b (aB+i*2) vv) (m1:=[.aE,.aE]) (D:=λid=>id=0\/id=1) (esz:=2) (E:=aa (S.take i++e::S.drop i)) (l:=⟨b,aB,S.length+1,cap⟩) (src:=λ_ _=>.sub 0 0 0)
   qC lh (by rw[hT.size];exact aai _) hT.os hT.tape hT.output (λx hx fG=>hT.heap x (λhe=>fG 0 (.inl rfl) Pu (by rw[VZ];exact he.symm)))
   (λ_=>⟨by rw[hT.size];exact WN,.inr ⟨0,.inl rfl,Pu,by rw[VZ]⟩⟩) I5 oZ WL Fr
   (λg _=>⟨c2,xw,by rw[Ux,M8];exact DO,Es _ ⟨b,aB,S.length+1,cap⟩ c2 g (λk hk=>by
    show c2[aB+k]? =_;rw[lS,if_neg (by rw[Cy];omega),k7,if_neg om,RY _ om]) (λk hk=>by
    show c2[aB+(i*2+k)]? =_;rw[lS,if_pos (by rw[Cy];omega),show aB+(i*2+k)-(aB+i*2)=k by omega]) (λk hk=>by
    show c2[aB+((i+1)*2+k)]? =_;rw[lS,if_neg (by rw[Cy];omega),k7,if_pos (by rw[lH];omega),show aB+((i+1)*2+k)-(aB+(i+1)*2)=k by omega,Et])⟩)
   (λk FA j s el hk hj=>(jJ k FA j s el hk hj).elim) (λ_ _ _ _ _⟨FA,s,el,hk,hj⟩ _=>(jJ _ FA _ s el hk hj).elim)
  refine⟨_,_,_,_,rfl,⟨rfl,rfl⟩,nA,?_,hX⟩;refine⟨by simp[bX.move,Ri],?_⟩
  have uk:(ρ.move ⟨b,aB,S.length+1,cap⟩ λ_ _=>.sub 0 0 0).aV (.ay 2)=⟨b,aB,S.length+1,cap⟩:=by simp[bX.move,Ri]
  rw[uk];exact⟨WG _,aai _,oZ,WL,_,rfl,λ_=>aD⟩
 ·
  have zV:=Er b aB S.length cap i vb A6 WM cs vv w hi om om om gF Cy BW BX U6 U7;refine zV.mono ?_;rintro e' w' ⟨rfl,rfl⟩;have hGn:S.length+1<=grownCap w (S.length+1) cap 64:=grownCap_ge w _ _ _;have hGm:grownCap w (S.length+1) cap 64<=maxLen:=grownCap_le_maxLen w (S.length+1) cap 64 (by unfold maxLen;omega)
  generalize grownCap w (S.length+1) cap 64=G at*
  obtain⟨ROW,Hg⟩:∃ROW:Array Value,ROW=(cs.take (i*2)).toArray++Builtin.zeroCells wz.cells (S.length+1-i)++Builtin.zeroCells wz.cells (G-(S.length+1)):=⟨_,rfl⟩;rw[<-Hg];have hRs:ROW.size=G*2:=by rw[Hg];simp[Builtin.zeroCells,Value.cells,wz,aa8,gF];omega
  have hRg:∀k,k<i*2->ROW[k]? =cs[k]? :=λk hk=>by
   rw[Hg,Array.append_assoc,ac5 (by simp[gF];omega)]
   simp[abK,hk]
  have hA:eT w (w.alloc (.cells ROW 64)).drew:=(eT.alloc w _).trans (eT.drew _);obtain⟨c1,FO,BE,M8,k7⟩:=jo (mk:=(2:Nat)=1) vv (i*2) (w.alloc (.cells ROW 64)).drew ROW ((m8.new w ROW 64).cO rfl) (by rw[Cy];omega)
  obtain⟨c2,xw,xt,Ux,lS⟩:=jo (mk:=(2:Nat)=1) (cs.drop (i*2)) ((i+1)*2) ((w.alloc (.cells ROW 64)).drew.setCells w.heap.size (i*2) vv).drew c1 (FO.cO rfl) (by rw[lH];omega)
  have dQ:w.heap.size<((((w.alloc (.cells ROW 64)).drew.setCells w.heap.size (i*2) vv).drew).setCells w.heap.size ((i+1)*2) (cs.drop (i*2))).heap.size:=by rw[xt.size];show w.heap.size<((w.alloc (.cells ROW 64)).drew.setCells w.heap.size (i*2) vv).heap.size;rw[BE.size];show w.heap.size<(w.alloc (.cells ROW 64)).heap.size;simp
  obtain⟨nA,hX⟩:=hM.move (w':=(((w.alloc (.cells ROW 64)).drew.setCells w.heap.size (i*2) vv).drew).setCells w.heap.size ((i+1)*2) (cs.drop (i*2))) (m1:=[.aE,.aE]) (D:=λid=>id=0\/id=1) (esz:=2) (E:=aa (S.take i++e::S.drop i)) (l:=⟨w.heap.size,0,S.length+1,G⟩) (src:=λ_ _=>.sub 0 0 0)
   qC lh (Nat.le_of_lt dQ) ((xt.os.trans BE.os).trans rfl) ((xt.tape.trans BE.tape).trans rfl) ((xt.output.trans BE.output).trans rfl)
   (λx hx _=>((xt.heap x om).trans (BE.heap x om)).trans (hA.heap x hx))
   (λ_=>⟨dQ,.inl (aai _)⟩) I5 hGn hGm Fr
   (λg _=>⟨c2,xw,by rw[Ux,M8,hRs];show 0+G*2<=G*2;omega,Es _ ⟨w.heap.size,0,S.length+1,G⟩ c2 g (λk hk=>by
    show c2[0+k]? =_;rw[abV,lS,if_neg om,k7,if_neg om,hRg _ hk]) (λk hk=>by
    show c2[0+(i*2+k)]? =_;rw[abV,lS,if_neg om,k7,if_pos (by rw[Cy];omega),show i*2+k-i*2=k by omega]) (λk hk=>by
    show c2[0+((i+1)*2+k)]? =_;rw[abV,lS,if_pos (by rw[lH];omega),show(i+1)*2+k-(i+1)*2=k by omega,Et])⟩)
   (λk FA j s el hk hj=>(jJ k FA j s el hk hj).elim) (λ_ _ _ _ _⟨FA,s,el,hk,hj⟩ _=>(jJ _ FA _ s el hk hj).elim)
  refine⟨_,_,_,_,rfl,⟨rfl,rfl⟩,nA,?_,hX⟩;refine⟨by simp[bX.move,Ri],?_⟩
  have uk:(ρ.move ⟨w.heap.size,0,S.length+1,G⟩ λ_ _=>.sub 0 0 0).aV (.ay 2)=⟨w.heap.size,0,S.length+1,G⟩:=by simp[bX.move,Ri]
  rw[uk];exact⟨WG _,aai _,hGn,hGm,_,rfl,λ_=>aD⟩
def Obj.ob(o:Obj):Ob:=⟨o.ah,o.data,o.ag,o.target,o.aG,.sl 4 (o.aj.map cy.enc),o.aQ,o.ak,o.up⟩
theorem WO(l:List Obj):cT l=ia (l.map Obj.ob):=by show Dt.sl 9 (l.map Obj.enc)=Dt.sl 9 ((l.map Obj.ob).map Ob.enc);rw[acf];rfl
def jp(l:List Obj)(n p:Nat)(name:ByteArray):List Obj:=match l[n]? with
 |none=>l
 |some o=>match (l.set n {o with ag:=(fW (name,(p:Int)) (o.ag.map kO)).map bP})[p]? with
  |none=>l
  |some q=>(l.set n {o with ag:=(fW (name,(p:Int)) (o.ag.map kO)).map bP}).set p {q with ak:=IntKind.i64.wrap (q.ak+1),up:=if q.ah=2 then(n:Int)else q.up}
def yD(b:Bool)(o:Obj)(y:List Obj)(name:ByteArray):List Obj×Int:=
 if o.ah≠2 then([],11)else if o.ak=0 then([],6)else if b=false then([],7)else if eY (o.ag.map kO) name>=0 then([],7)else if o.ag.length>=8 then([],15)else(y,0)
def nW(l:List Obj)(k ah:Int):Bool:=gw (l.map Obj.ob) k ah
def cr(b:Bool)(l:List Obj)(dir:Int)(name:ByteArray)(obj:Int):List Obj×Int:=
 if nW l dir 0=true then(if nW l obj 0=true then(match l[dir.toNat]? with
  |none=>([],6)
  |some o=>yD b o (jp l dir.toNat obj.toNat name) name)else([],6))else([],6)
theorem yE{l:List Obj}{k:Int}(h:k<0):nW l k 0=false:=by
 unfold nW gw;rw[decide_eq_false (by omega:¬k>=0)];rfl
theorem yF{l:List Obj}{k:Int}(h:k>=(l.length:Int)):nW l k 0=false:=by
 unfold nW gw;rw[O9,decide_eq_false (by omega:¬k<(l.length:Int))];simp
theorem yG{l:List Obj}{n:Nat}(hn:n<l.length)(h:l[n].ah=0):nW l n 0=false:=by unfold nW gw;rw[aal,Qu,wy hn];have:l[n].ob.ah=0:=h;simp[this]
theorem yH{l:List Obj}{n:Nat}(hn:n<l.length)(h:l[n].ah≠0):nW l n 0=true:=by unfold nW gw;rw[aal,Qu,wy hn,O9];have:l[n].ob.ah≠0:=h;simp[this,hn]
theorem jr{l:List Obj}{k:Nat}(h:k<l.length):cm (l.map Obj.enc) (k:Nat)=some [.val (.int .i64 l[k].ah),.sl 1 l[k].data,.sl 2 l[k].ag,.val (.string l[k].target),.val (.int .i64 l[k].aG),.sl 4 (l[k].aj.map cy.enc),.val (.int .i64 l[k].aQ),.val (.int .i64 l[k].ak),.val (.int .i64 l[k].up)]:=by rw[aU,Qu,wy h];rfl
theorem aat{Y:Nat->Nat}{m:Mem}{Z:Nat->Prop}{a a' b b':RV}(h1:zu Y m Z a a')(h2:zu Y m Z b b'):sq Y m Z (.bG [a,b]) (.bG [a',b']):=by
 refine .bG rfl λi r r' h3 h4=>?_
 match i with
 |0=>cases h3;cases h4;exact h1
 |1=>cases h3;cases h4;exact h2
 |n+2=>simp at h3
theorem aau{Y:Nat->Nat}{m:Mem}{Z:Nat->Prop}{a a' b b' c c':RV}(h1:zu Y m Z a a')(h2:zu Y m Z b b')(h0:zu Y m Z c c'):sq Y m Z (.bG [a,b,c]) (.bG [a',b',c']):=by
 refine .bG rfl λi r r' h3 h4=>?_
 match i with
 |0=>cases h3;cases h4;exact h1
 |1=>cases h3;cases h4;exact h2
 |2=>cases h3;cases h4;exact h0
 |n+3=>simp at h3
theorem qJ{p Q:Nat}{l:List Obj}{k:Nat}{o:Obj}(hk:k<l.length):aX (b7 p Q 0 l) k (lD p Q k o)=b7 p Q 0 (l.set k o):=by
 rw[bh];apply ab4;intro i;rw[gB,abV];by_cases h:k=i
 .subst h;rw[aaj (by rw[gA];exact hk),aaj hk]
  rfl
 .rw[aam h,aam h,gB,abV]
theorem Hi{p Q Q':Nat}{l:List Obj}{o:Obj}(hp:l[p]? =some o):aX (b7 p Q 0 l) p (lD p Q' p o)=b7 p Q' 0 l:=by
 have eF:=(Lw.1 hp).1;rw[bh];apply ab4;intro i;rw[gB,abV];by_cases h:p=i
 .subst h;rw[aaj (by rw[gA];exact eF),hp]
  rfl
 .rw[aam h,gB,abV];cases l[i]? with
  |none=>rfl
  |some x=>
   have h2:¬i=p:=λe=>h e.symm
   simp only[aa3,lD,if_neg h2]
theorem JC{m:Mem}{Z:Nat->Prop}{pp:Option Nat}{id p Q:Nat}{l:List Obj}{o:Obj}{E:List (List Dt)}(hz:Z id)(hm:m[id]? =some (.row 9 (b7 p Q 0 l)))(hzq:Z Q)(hq:m[Q]? =some (.row 2 (aa E)))(hp:l[p]? =some o):
  cS m Z pp (.row id 9 0 none) (cT (l.set p {o with ag:=E})):=by
 have eF:=(Lw.1 hp).1;have key:∀(i:Nat)cs es,(b7 p Q 0 l)[i]? =some cs->((l.set p {o with ag:=E}).map Obj.enc)[i]? =some es->mb m Z (some id) cs es:=by
  intro i cs es h1 h2;rw[gB,abV]at h1;rw[Qu]at h2;by_cases h:p=i
  .subst h;rw[aaj eF]at h2;rw[hp]at h1;cases h1;cases h2;simp only[lD,if_pos,Obj.enc];exact .cons (.ai _) (.cons (.ai _) (.cons (cS.da hzq hq 0 none) (.cons (.ai _) (.cons (.ai _) (.cons (.ai _) (.cons (.ai _) (.cons (.ai _) (.cons (.ai _) .nil))))))))
  .rw[aam h]at h2;cases hx:l[i]? with
   |none=>rw[hx]at h1;cases h1
   |some x=>
    rw[hx]at h1 h2;cases h1;cases h2;have h3:¬i=p:=λe=>h e.symm
    simp only[lD,if_neg h3,Obj.enc];exact .cons (.ai _) (.cons (.ai _) (.cons (.ai _) (.cons (.ai _) (.cons (.ai _) (.cons (.ai _) (.cons (.ai _) (.cons (.ai _) (.cons (.ai _) .nil))))))))
 exact cS.row id 9 0 none _ _ hz hm (by rw[gA,O9,abt]) (λi cs es h1 h2=>(key i cs es h1 h2).len) (λi cs es j c d h1 h2 h3 h4=>(key i cs es h1 h2).get j c d h3 h4)
theorem LM(S:List (List Dt))(e:List Dt)(i:Nat)(hi:i<=S.length)(hl:S.length<=4194304){m:Mem}{K:CV->Mem->Prop}(a b:Nat)(Fx:gR [a,b]=true)(ax:eh m.length [a,b]=true)(ha:dh m a=some (.row 2 (aa S)))(hb:dh m b=some (.row 2 (aa [e])))(h:K (.rv (.one (.row m.length 2 0 none))) (dt m [a,b] [.aE,.aE,.row 2 (aa (S.take i++e::S.drop i))])):ap prog 150 [.rv (.one (.row a 2 0 none)),al .i64 (i:Nat),.rv (.one (.row b 2 0 none))] m K:=by
 by_cases pz:i<S.length
 .refine be [a,b] m.length rfl rfl Fx ax (args0:=[.rv (.one (.row 0 2 0 none)),al .i64 (i:Nat),.rv (.one (.row 1 2 0 none))]) rfl (m0:=[.row 2 (aa S),.row 2 (aa [e])]) (λi b' hi=>?_) (LL S e i pz hl) (λr1 m1 hr=>?_)
  .match i,hi with
   |0,hi=>cases hi;exact .inr ⟨λh=>h,_,by rw[aW]at ha;exact ha,.bn rfl⟩
   |1,hi=>cases hi;exact .inr ⟨λh=>h,_,by rw[aW]at hb;exact hb,.bn rfl⟩
   |n+2,hi=>simp at hi
  .obtain⟨rfl,rfl⟩:=hr;refine⟨aD,?_⟩;show K (.rv (.one (.row (m.length+(2-2)) 2 0 none))) (dt m [a,b] [.aE,.aE,.row 2 ((aa (S.take i++e::S.drop i)).map (λcs=>cs.map (CC.aN (sg [a,b] m.length))))])
   rw[iN];exact h
 .have:i=S.length:=om;subst this;refine WD S e hl a b Fx ax ha hb ?_;rw[abD,List.drop_length]at h;exact h
structure yI(l:List Obj):Prop where
 oi:mF l
 en:∀o,o∈l->∃es:List NE,o.ag=es.map bP/\Gw es/\es.length<=4194304/\∀e,e∈es->0<=e.2/\e.2<(l.length:Int)
def Pw(R:List Obj×Int)(r:CV)(m:Mem):Prop:=∃r' m',View 0 ⟨[r],m⟩ ⟨[r'],m'⟩/\r'= .bG [nK R.1,cK R.2]/\m'=[]
theorem gW{R:List Obj×Int}{m:Mem}(e:Int)(h:R=([],e)):Pw R (.bG [.one .bt,cK e]) m:=by subst h;refine⟨_,_,View.of m.length [] [] rfl rfl rfl rfl rfl rfl (.put (aat (.one (.dG (.bt 9))) (.one (.aN (.ai _)))) .nil) (.nil _),rfl,rfl⟩
theorem tF{l:List Obj}{n p:Nat}(hn:n<l.length)(hp:p<l.length){name:ByteArray}{E:List (List Dt)}(hE:E=(fW (name,(p:Int)) (l[n].ag.map kO)).map bP){q:Obj}(hq:q={l[p]with ak:=IntKind.i64.wrap (l[p].ak+1),up:=if l[p].ah=2 then(n:Int)else l[p].up}):
  ∃o2,(l.set p q)[n]? =some o2/\(l.set p q).set n {o2 with ag:=E}=jp l n p name:=by
 subst hE;unfold jp;rw[wy hn];simp only[];by_cases h:p=n
 .subst h;rw[aaj hn,aaj hn];refine⟨_,rfl,?_⟩;simp only[adl];subst hq;rfl
 .rw[aam h,wy hn,aam (λe=>h e.symm),wy hp]
  refine⟨_,rfl,?_⟩;simp only[];rw[List.set_comm _ _ h,<-hq]
theorem Eu(l:List Obj)(hs:yI l)(dir obj:Int)(name:ByteArray)(b:Bool)(hN:∀{m:Mem}{K:CV->Mem->Prop},K (aq b) m->ap prog 116 [dM name] m K):
  body prog c122 [cJ l,al .i64 dir,dM name,al .i64 obj] [] (Pw (cr b l dir name obj)):=by
 have hE:∀R,R=cr b l dir name obj->body prog c122 [cJ l,al .i64 dir,dM name,al .i64 obj] [] (Pw R)->body prog c122 [cJ l,al .i64 dir,dM name,al .i64 obj] [] (Pw (cr b l dir name obj)):=λR h h2=>h▸h2
 refine am (λh1=>?_) (λh1=>?_)
 .exact gW 6 (by unfold cr;rw[yE h1];rfl)
 obtain⟨n,rfl⟩:∃n:Nat,dir=n:=⟨dir.toNat,by have h1:¬dir<0:=h1;omega⟩
 refine am (λh2=>?_) (λh2=>?_)
 .have h2:(n:Int)>=((l.map Obj.enc).length:Int):=h2;rw[O9]at h2;exact gW 6 (by unfold cr;rw[yF h2];rfl)
 have h2:¬(n:Int)>=((l.map Obj.enc).length:Int):=h2;rw[O9]at h2;have hn:n<l.length:=om;have Q7:=jr hn;refine af Q7 ?_;refine ba (λh3=>?_) (λh3=>?_)
 .exact gW 6 (by unfold cr;rw[yG hn h3];rfl)
 have h3:l[n].ah≠0:=h3;have d1:=yH hn h3;refine am (λh4=>?_) (λh4=>?_)
 .exact gW 6 (by unfold cr;rw[d1,yE h4];rfl)
 obtain⟨p,rfl⟩:∃p:Nat,obj=p:=⟨obj.toNat,by have h4:¬obj<0:=h4;omega⟩
 refine am (λh5=>?_) (λh5=>?_)
 .have h5:(p:Int)>=((l.map Obj.enc).length:Int):=h5;rw[O9]at h5;exact gW 6 (by unfold cr;rw[d1,yF h5];rfl)
 have h5:¬(p:Int)>=((l.map Obj.enc).length:Int):=h5;rw[O9]at h5;have hp:p<l.length:=om;have hgp:=jr hp;refine af hgp ?_;refine ba (λh6=>?_) (λh6=>?_)
 .exact gW 6 (by unfold cr;rw[d1,yG hp h6];rfl)
 have h6:l[p].ah≠0:=h6;have d2:=yH hp h6;have hR:cr b l n name p=yD b l[n] (jp l n p name) name:=by unfold cr;rw[if_pos d1,if_pos d2,aal,aal,wy hn]
 rw[hR];unfold yD;refine af Q7 ?_;refine bF (λh7=>?_) (λh7=>?_)
 .exact gW 11 (if_pos h7)
 have h7:l[n].ah=2:=by simpa using h7
 rw[if_neg (by rw[h7];simp)]
 refine af Q7 ?_;refine ba (λh8=>?_) (λh8=>?_)
 .exact gW 6 (if_pos h8)
 have h8:l[n].ak≠0:=h8;rw[if_neg h8];refine hN ?_;cases b with
 |false=>exact gW 7 (if_pos rfl)
 |true=>
 rw[if_neg aD];obtain⟨es,he,wu,SP,dD⟩:=hs.en _ (aaR hn);have U8:l[n].ag.map kO=es:=by rw[he,ib]
 refine Eo l n hn h7 es he om name ?_;have hfw:yz l es n name=eY es name:=A4 wu name;rw[hfw,U8];refine am (λh9=>?_) (λh9=>?_)
 .exact gW 7 (if_pos h9)
 rw[if_neg h9];refine af Q7 ?_;refine am (λRj=>?_) (λRj=>?_)
 .exact gW 15 (if_pos (by have Rj:(l[n].ag.length:Int)>=8:=Rj;omega))
 have Rj:¬(l[n].ag.length:Int)>=8:=Rj;rw[if_neg om];have aeJ:Cm es name=false:=by
  have h9:¬eY es name>=0:=h9;rw[<-hfw]at h9;cases hb:Cm es name with
  |false=>rfl
  |true=>
   exfalso;apply h9;unfold yz;rw[if_pos hb];unfold Cm at hb;cases hg:es[rS es name]? with
   |none=>rw[hg]at hb;cases hb
   |some e=>exact(dD e (Vm hg)).1
 have pd:∀Q,dh (b7 n Q 0 l) n=some (dA l[n] (.row Q 2 0 none) l[n].ak l[n].up):=λQ=>by rw[aW,gB,wy hn,abV,aa3,lD,if_pos rfl]
 have heb:Cv l n l.length= .row 2 (aa (es.map dn)):=by
  unfold Cv;rw[show Nat.blt n l.length=true by simpa using hn]
  show Bk.row 2 (aa (match l[n]? with|some o=>o.ag|none=>[]))=_
  rw[wy hn];show Bk.row 2 (aa l[n].ag)=_;rw[he];rfl
 have aaw:∀Q,lenOf (b7 n Q 0 l).length 0 none=l.length:=λQ=>gA n Q l 0
 have oH:∀Q(k:Nat),k<l.length->dL (k:Nat) (lenOf (b7 n Q 0 l).length 0 none)=some k:=λQ k hk=>bJ (by rw[aaw];exact hk)
 refine Cw l hs.oi n ?_;rw[heb];refine af (oH 1 n hn) ?_;refine af (pd 1) ?_;refine Wp es om name 149 (λe m K h=>Wy e name h) (id:=1) rfl ?_
 refine af (oH 1 n hn) ?_;refine af (pd 1) ?_;have RX:rS es name<=es.length:=(pU wu name es.length 0 es.length om om om (λk e hk=>absurd hk (abE k)) (λk e hk he=>by have:=(Lw.1 he).1;omega)).1
 refine LM (es.map dn) (dn (name,(p:Int))) (rS es name) (by rw[O9];exact RX) (by rw[O9];exact SP) 1 2 rfl rfl rfl rfl ?_
 refine af (oH 1 n hn) ?_;refine af (pd 1) ?_;have pi:aX (b7 n 1 0 l) n (dA l[n] (.row 3 2 0 none) l[n].ak l[n].up)=b7 n 3 0 l:=by have:=Hi (p:=n) (Q:=1) (Q':=3) (wy hn);rw[<-this,lD,if_pos rfl]
 have LN:(es.map dn).take (rS es name)++dn (name,(p:Int))::(es.map dn).drop (rS es name)=(fW (name,(p:Int)) (l[n].ag.map kO)).map bP:=by rw[U8,WC wu aeJ,abM,ab2,ac7,ad5];rfl
 have j7:∀L2:List Obj,L2=jp l n p name->aw prog 0 aes (nu prog c122.lM (Pw (jp l n p name,0))) ⟨i5 128 [(10,cJ L2)],[]⟩:=λL2 h=>by subst h;exact⟨_,_,View.o 0 [] [] (.eq rfl .nil) (.nil _),rfl,rfl⟩
 by_cases SQ:p=n
 .have hrp:dh (b7 n 3 0 l) p=some (dA l[p] (.row 3 2 0 none) l[p].ak l[p].up):=by rw[aW,gB,wy hp,abV,aa3,lD,if_pos SQ]
  have pH:aX (aX (b7 n 1 0 l) n (dA l[n] (.row 3 2 0 none) l[n].ak l[n].up)) p (dA l[p] (.row 3 2 0 none) (IntKind.i64.wrap (l[p].ak+1)) l[p].up)=b7 n 3 0 (l.set p {l[p]with ak:=IntKind.i64.wrap (l[p].ak+1)}):=by
   rw[pi];have:=qJ (p:=n) (Q:=3) (o:={l[p]with ak:=IntKind.i64.wrap (l[p].ak+1)}) hp
   rw[<-this,lD,if_pos SQ]
  have eR:∀l2:List Obj,l2.length=l.length->dL (p:Nat) (lenOf (b7 n 3 0 l2).length 0 none)=some p:=λl2 h=>bJ (by rw[show lenOf (b7 n 3 0 l2).length 0 none=l2.length from gA n 3 l2 0,h];exact hp)
  have vX:dh (aX (aX (b7 n 1 0 l) n (dA l[n] (.row 3 2 0 none) l[n].ak l[n].up)) p (dA l[p] (.row 3 2 0 none) (IntKind.i64.wrap (l[p].ak+1)) l[p].up)) p=some (dA l[p] (.row 3 2 0 none) (IntKind.i64.wrap (l[p].ak+1)) l[p].up):=by
   rw[bh,aW,aaj (by rw[pi,gA];exact hp)]
  refine af (by rw[pi];exact eR l rfl:dL (p:Nat) (lenOf (aX (b7 n 1 0 l) n (dA l[n] (.row 3 2 0 none) l[n].ak l[n].up)).length 0 none)=some p) ?_
  refine af (by rw[pi];exact hrp:dh (aX (b7 n 1 0 l) n (dA l[n] (.row 3 2 0 none) l[n].ak l[n].up)) p=some (dA l[p] (.row 3 2 0 none) l[p].ak l[p].up)) ?_
  refine af (by rw[pi];exact eR l rfl:dL (p:Nat) (lenOf (aX (b7 n 1 0 l) n (dA l[n] (.row 3 2 0 none) l[n].ak l[n].up)).length 0 none)=some p) ?_
  refine af (by rw[pi];exact hrp:dh (aX (b7 n 1 0 l) n (dA l[n] (.row 3 2 0 none) l[n].ak l[n].up)) p=some (dA l[p] (.row 3 2 0 none) l[p].ak l[p].up)) ?_
  refine af (by rw[pH];exact eR _ (abt ..):dL (p:Nat) (lenOf (aX (aX (b7 n 1 0 l) n (dA l[n] (.row 3 2 0 none) l[n].ak l[n].up)) p (dA l[p] (.row 3 2 0 none) (IntKind.i64.wrap (l[p].ak+1)) l[p].up)).length 0 none)=some p) ?_
  refine af vX ?_;refine ba (λhk=>?_) (λhk=>?_)
  .have hk:l[p].ah=2:=hk;have Px:aX (aX (aX (b7 n 1 0 l) n (dA l[n] (.row 3 2 0 none) l[n].ak l[n].up)) p (dA l[p] (.row 3 2 0 none) (IntKind.i64.wrap (l[p].ak+1)) l[p].up)) p (dA l[p] (.row 3 2 0 none) (IntKind.i64.wrap (l[p].ak+1)) (n:Nat))=b7 n 3 0 (l.set p {l[p]with ak:=IntKind.i64.wrap (l[p].ak+1),up:=(n:Int)}):=by
    rw[pH];have:=qJ (p:=n) (Q:=3) (l:=l.set p {l[p]with ak:=IntKind.i64.wrap (l[p].ak+1)}) (k:=p) (o:={l[p]with ak:=IntKind.i64.wrap (l[p].ak+1),up:=(n:Int)}) (by rw[abt];exact hp)
    rw[adl]at this;rw[<-this,lD,if_pos SQ]
   refine af (by rw[pH];exact eR _ (abt ..):dL (p:Nat) (lenOf (aX (aX (b7 n 1 0 l) n (dA l[n] (.row 3 2 0 none) l[n].ak l[n].up)) p (dA l[p] (.row 3 2 0 none) (IntKind.i64.wrap (l[p].ak+1)) l[p].up)).length 0 none)=some p) ?_
   refine af vX ?_;obtain⟨o2,o0,eE⟩:=tF (name:=name) hn hp LN (q:={l[p]with ak:=IntKind.i64.wrap (l[p].ak+1),up:=(n:Int)}) (by rw[if_pos hk])
   refine⟨_,View.o 4 [] [0,3] ?_ (.nil _),j7 _ eE⟩
   iterate 10 refine .aH ?_
   refine .put (.rv (.one (.dG (p:=none) (JC (Z:=λk=>bc [0,3] k=true) rfl (by show some (Bk.row 9 _)=some (Bk.row 9 _);congr 1;exact congrArg _ Px) rfl rfl o0)))) ?_
   repeat(first|exact .nil|refine .aH ?_)
  .have hk:l[p].ah≠2:=hk;obtain⟨o2,o0,eE⟩:=tF (name:=name) hn hp LN (q:={l[p]with ak:=IntKind.i64.wrap (l[p].ak+1)}) (by rw[if_neg hk])
   refine⟨_,View.o 4 [] [0,3] ?_ (.nil _),j7 _ eE⟩
   iterate 10 refine .aH ?_
   refine .put (.rv (.one (.dG (p:=none) (JC (Z:=λk=>bc [0,3] k=true) rfl (by show some (Bk.row 9 _)=some (Bk.row 9 _);congr 1;exact congrArg _ pH) rfl rfl o0)))) ?_
   repeat(first|exact .nil|refine .aH ?_)
 .have hrp:dh (b7 n 3 0 l) p=some (dA l[p] (.ai (.sl 2 l[p].ag)) l[p].ak l[p].up):=by rw[aW,gB,wy hp,abV,aa3,lD,if_neg SQ]
  have pH:aX (aX (b7 n 1 0 l) n (dA l[n] (.row 3 2 0 none) l[n].ak l[n].up)) p (dA l[p] (.ai (.sl 2 l[p].ag)) (IntKind.i64.wrap (l[p].ak+1)) l[p].up)=b7 n 3 0 (l.set p {l[p]with ak:=IntKind.i64.wrap (l[p].ak+1)}):=by
   rw[pi];have:=qJ (p:=n) (Q:=3) (o:={l[p]with ak:=IntKind.i64.wrap (l[p].ak+1)}) hp
   rw[<-this,lD,if_neg SQ]
  have eR:∀l2:List Obj,l2.length=l.length->dL (p:Nat) (lenOf (b7 n 3 0 l2).length 0 none)=some p:=λl2 h=>bJ (by rw[show lenOf (b7 n 3 0 l2).length 0 none=l2.length from gA n 3 l2 0,h];exact hp)
  have vX:dh (aX (aX (b7 n 1 0 l) n (dA l[n] (.row 3 2 0 none) l[n].ak l[n].up)) p (dA l[p] (.ai (.sl 2 l[p].ag)) (IntKind.i64.wrap (l[p].ak+1)) l[p].up)) p=some (dA l[p] (.ai (.sl 2 l[p].ag)) (IntKind.i64.wrap (l[p].ak+1)) l[p].up):=by
   rw[bh,aW,aaj (by rw[pi,gA];exact hp)]
  refine af (by rw[pi];exact eR l rfl:dL (p:Nat) (lenOf (aX (b7 n 1 0 l) n (dA l[n] (.row 3 2 0 none) l[n].ak l[n].up)).length 0 none)=some p) ?_
  refine af (by rw[pi];exact hrp:dh (aX (b7 n 1 0 l) n (dA l[n] (.row 3 2 0 none) l[n].ak l[n].up)) p=some (dA l[p] (.ai (.sl 2 l[p].ag)) l[p].ak l[p].up)) ?_
  refine af (by rw[pi];exact eR l rfl:dL (p:Nat) (lenOf (aX (b7 n 1 0 l) n (dA l[n] (.row 3 2 0 none) l[n].ak l[n].up)).length 0 none)=some p) ?_
  refine af (by rw[pi];exact hrp:dh (aX (b7 n 1 0 l) n (dA l[n] (.row 3 2 0 none) l[n].ak l[n].up)) p=some (dA l[p] (.ai (.sl 2 l[p].ag)) l[p].ak l[p].up)) ?_
  refine af (by rw[pH];exact eR _ (abt ..):dL (p:Nat) (lenOf (aX (aX (b7 n 1 0 l) n (dA l[n] (.row 3 2 0 none) l[n].ak l[n].up)) p (dA l[p] (.ai (.sl 2 l[p].ag)) (IntKind.i64.wrap (l[p].ak+1)) l[p].up)).length 0 none)=some p) ?_
  refine af vX ?_;refine ba (λhk=>?_) (λhk=>?_)
  .have hk:l[p].ah=2:=hk;have Px:aX (aX (aX (b7 n 1 0 l) n (dA l[n] (.row 3 2 0 none) l[n].ak l[n].up)) p (dA l[p] (.ai (.sl 2 l[p].ag)) (IntKind.i64.wrap (l[p].ak+1)) l[p].up)) p (dA l[p] (.ai (.sl 2 l[p].ag)) (IntKind.i64.wrap (l[p].ak+1)) (n:Nat))=b7 n 3 0 (l.set p {l[p]with ak:=IntKind.i64.wrap (l[p].ak+1),up:=(n:Int)}):=by
    rw[pH];have:=qJ (p:=n) (Q:=3) (l:=l.set p {l[p]with ak:=IntKind.i64.wrap (l[p].ak+1)}) (k:=p) (o:={l[p]with ak:=IntKind.i64.wrap (l[p].ak+1),up:=(n:Int)}) (by rw[abt];exact hp)
    rw[adl]at this;rw[<-this,lD,if_neg SQ]
   refine af (by rw[pH];exact eR _ (abt ..):dL (p:Nat) (lenOf (aX (aX (b7 n 1 0 l) n (dA l[n] (.row 3 2 0 none) l[n].ak l[n].up)) p (dA l[p] (.ai (.sl 2 l[p].ag)) (IntKind.i64.wrap (l[p].ak+1)) l[p].up)).length 0 none)=some p) ?_
   refine af vX ?_;obtain⟨o2,o0,eE⟩:=tF (name:=name) hn hp LN (q:={l[p]with ak:=IntKind.i64.wrap (l[p].ak+1),up:=(n:Int)}) (by rw[if_pos hk])
   refine⟨_,View.o 4 [] [0,3] ?_ (.nil _),j7 _ eE⟩
   iterate 10 refine .aH ?_
   refine .put (.rv (.one (.dG (p:=none) (JC (Z:=λk=>bc [0,3] k=true) rfl (by show some (Bk.row 9 _)=some (Bk.row 9 _);congr 1;exact congrArg _ Px) rfl rfl o0)))) ?_
   repeat(first|exact .nil|refine .aH ?_)
  .have hk:l[p].ah≠2:=hk;obtain⟨o2,o0,eE⟩:=tF (name:=name) hn hp LN (q:={l[p]with ak:=IntKind.i64.wrap (l[p].ak+1)}) (by rw[if_neg hk])
   refine⟨_,View.o 4 [] [0,3] ?_ (.nil _),j7 _ eE⟩
   iterate 10 refine .aH ?_
   refine .put (.rv (.one (.dG (p:=none) (JC (Z:=λk=>bc [0,3] k=true) rfl (by show some (Bk.row 9 _)=some (Bk.row 9 _);congr 1;exact congrArg _ pH) rfl rfl o0)))) ?_
   repeat(first|exact .nil|refine .aH ?_)
theorem LP(l:List Obj)(hs:yI l)(dir obj:Int)(name:ByteArray)(b:Bool)(hN:∀{m:Mem}{K:CV->Mem->Prop},K (aq b) m->ap prog 116 [dM name] m K){m:Mem}{K:CV->Mem->Prop}(h:K (.bG [nK (cr b l dir name obj).1,cK (cr b l dir name obj).2]) m):ap prog 122 [cJ l,al .i64 dir,dM name,al .i64 obj] m K:=by
 refine aR (K0:=λr m=>r= .bG [nK (cr b l dir name obj).1,cK (cr b l dir name obj).2]/\m=[]) (bK (cE func122 l122 (Eu l hs dir obj name b hN)) λr m1⟨r',m',hv,h1,h2⟩=>⟨r',m',hv,h1,h2⟩) (by simp[cJ,al,dM,CV.cW,CC.cW]) λr m1 hr=>?_
 obtain⟨rfl,rfl⟩:=hr;exact⟨_,cH.self rfl,h⟩
def c77:LF:=Cq prog f77 [[9]] []
def c119:LF:=Cq prog f119 [] []
def c120:LF:=Cq prog f120 [] []
def c147:LF:=Cq prog f147 [] []
theorem l120:bs prog f120=some c120:=by kernel_rfl
theorem l147:bs prog f147=some c147:=by kernel_rfl
theorem l119:bs prog f119=some c119:=by kernel_rfl
theorem l77:bs prog f77=some c77.er:=by kernel_rfl
def G88:LC:=unW (nU (nU (nU (nU (nU (nU (nU (nU (nU c77.code)))))))))
def Py(name:ByteArray):Bk:= .var [.ai (.val (.string name))]
theorem Ev(e:NE)(name:ByteArray):body prog c120 [yq e,.rv (.one (.ptr 0 0))] [.var ([Dt.val (.string name)].map .ai)] (λr m=>r=aq (e.1.toList==name.toList)/\∃ex,m= .var ([Dt.val (.string name)].map .ai)::ex):=by exact⟨rfl,_,rfl⟩
theorem Pz(e:NE)(name:ByteArray)(K:CV->Mem->Prop)(h:K (aq (e.1.toList==name.toList)) [.var ([Dt.val (.string name)].map .ai)]):ap prog 120 [yq e,.rv (.one (.ptr 0 0))] [.var ([Dt.val (.string name)].map .ai)] K:=
 fB rfl (aP func120 l120 (Ev e name)) h
theorem Hj{es:List NE}{k:Nat}(h:k<es.length):dh (aa (es.map dn)) k=some [.ai (.val (.string es[k].1)),.ai (.val (.int .i64 es[k].2))]:=by rw[aW];simp[aa,h,dn]
theorem LQ(es:List NE):lenOf (aa (es.map dn)).length 0 none=es.length:=by show(aa (es.map dn)).length=_;simp[aa]
theorem Ew(es:List NE)(hl:es.length<=4194304)(name:ByteArray)(j:Nat)(hj:j<es.length)(hjn:es[j].1.toList=name.toList)(hb:∀(i:Nat)e,i<j->es[i]? =some e->e.1.toList≠name.toList):
  body prog c147 [.rv (.one (.row 0 2 0 none)),.rv (.one (.fn 120 [1]))] [.row 2 (aa (es.map dn)),Py name] (λr m=>r=al .i64 (j:Nat)/\m=[.row 2 (aa (es.map dn)),Py name]):=by
 refine ar (λk=>k<=j) [0,1] (λk=>[(7,al .i64 (es.length:Nat)),(8,al .i64 (k:Nat))]) (λ_=>[.row 2 (aa (es.map dn)),Py name]) (λk=>j-k) 0 (WG _) ?_ (λk hk=>?_)
 .refine View.o 2 [0,1] [] ?_ ?_
  .repeat(first|exact .nil|refine .aH ?_|refine .eq rfl ?_|refine .put (.aN (by rw[LQ];rfl)) ?_)
  .exact .pr rfl rfl rfl (.pt rfl rfl (.k9 (ds:=[.val (.string name)]) rfl) (.nil _))
 have hk:k<=j:=hk;have dK:k<es.length:=om;refine bV (decide_eq_true (by show(k:Int)<(es.length:Int);omega)) ?_
 refine af (bJ (by rw[LQ];exact dK):dL (k:Nat) (lenOf (aa (es.map dn)).length 0 none)=some k) ?_
 refine af (Hj dK) ?_;refine gk (args0:=[yq es[k],.rv (.one (.ptr 0 0))]) (cs:=[.val (.string name)]) 1 rfl rfl (r0:=aq (es[k].1.toList==name.toList)) rfl (λK hK=>Pz es[k] name K hK) ?_
 refine aA (λh=>?_) (λh=>?_)
 .have h:es[k].1.toList=name.toList:=by simpa using h
  have:k=j:=by
   rcases aax k j with h2|h2
   .exact absurd h (hb k _ h2 (wy dK))
   .omega
  subst this;exact⟨rfl,rfl⟩
 .have fG:k≠j:=λe=>by subst e;rw[hjn]at h;simp at h
  refine⟨k+1,(by show k+1<=j;omega),(show j-(k+1)<j-k by omega),View.o2 2 [0,1] [] ?_⟩
  .exact .pr rfl rfl rfl (.pt rfl rfl (.k9 (ds:=[.val (.string name)]) rfl) (.nil _))
structure StD where
 t:Nat
 y:NE
def mg(a b:List NE)(t:Nat)(y:NE):List NE:=a++b.take t++y::b.drop t
theorem PA{a b:List NE}{t:Nat}(h:t<=b.length)(y:NE):(mg a b t y).length=a.length+b.length+1:=by simp[mg];omega
theorem LR{a b:List NE}{t:Nat}(h:t<b.length)(y:NE):(mg a b t y).set (a.length+t) b[t]=mg a b (t+1) b[t]/\(mg a b t y)[a.length+1+t]? =some b[t]:=by
 have h1:(a++b.take t).length=a.length+t:=by simp;omega
 have hd:b.drop t=b[t]::b.drop (t+1):=acX h;constructor
 .unfold mg;rw[acN _ _ om,h1,adv,List.set_cons_zero,List.take_succ_eq_append_getElem h,hd];simp only[acC,List.singleton_append]
 .unfold mg;rw[aaS om,h1,show a.length+1+t-(a.length+t)=1 by omega,hd]
  rfl
def SR:NE:=(⟨#[]⟩,0)
theorem LS(a b:List NE)(x:NE)(hl:a.length+b.length<=4194303)(name:ByteArray)(hx:x.1.toList=name.toList)(ha:∀e,e∈a->e.1.toList≠name.toList)(hb:∀e,e∈b->e.1.toList≠name.toList):
  body prog c119 [.rv (.one (.row 0 2 0 none)),.rv (.one (.fn 120 [1]))] [.row 2 (aa ((a++x::b).map dn)),Py name]
  (λr m=>r= .rv (.one (.row 0 2 0 (some (a.length+b.length))))/\m=[.row 2 (aa ((a++b++ [SR]).map dn)),Py name]):=by
 have hlen:(a++x::b).length=a.length+b.length+1:=by simp;omega
 refine(aP func147 l147 (Ew (a++x::b) om name a.length om (by simp[hx]) (λi e hi he=>?_))).mono λr m⟨hr,hm⟩=>?_
 .rw[aaW hi]at he;exact ha e (Vm he)
 subst hr hm;refine ar (λs:StD=>s.t<=b.length) [0,1] (λs=>[(5,al .i64 ((a.length+s.t:Nat):Int)),(6,al .i64 ((a.length+1+s.t:Nat):Int))]) (λs=>[.row 2 (aa ((mg a b s.t s.y).map dn)),Py name]) (λs=>b.length-s.t) ⟨0,x⟩ (WG _) ?_ (λs hs=>?_)
 .refine View.o 2 [0,1] [] ?_ ?_
  .repeat(first|exact .nil|refine .aH ?_|refine .eq rfl ?_|refine .put (.aN (br om).symm) ?_)
  .exact .pt rfl rfl (.bn (by show aa _=aa _;simp[mg])) (.pt rfl rfl (.k9 (ds:=[.val (.string name)]) rfl) (.nil _))
 obtain⟨t,y⟩:=s;have hs:t<=b.length:=hs;have lH:=PA (a:=a) hs y;refine am (λh=>?_) (λh=>?_)
 .have h:((a.length+1+t:Nat):Int)<((lenOf (aa ((mg a b t y).map dn)).length 0 none:Nat):Int):=h;rw[LQ,lH]at h;have ht:t<b.length:=om;obtain⟨n1,n2⟩:=LR (a:=a) ht y;have f4:a.length+1+t<(mg a b t y).length:=om;have ny:(mg a b t y)[a.length+1+t]=b[t]:=by rw[wy f4]at n2;exact ac3 n2
  have hr:=Hj f4;rw[ny]at hr;refine af (bJ (by rw[LQ];exact f4):dL ((a.length+1+t:Nat):Int) (lenOf (aa ((mg a b t y).map dn)).length 0 none)=some (a.length+1+t)) ?_
  refine af hr ?_;have fG:=hb b[t] (aaR ht);generalize hbt:b[t]=v at n1 fG;refine gk (args0:=[yq v,.rv (.one (.ptr 0 0))]) (cs:=[.val (.string name)]) 1 rfl rfl (r0:=aq (v.1.toList==name.toList)) rfl (λK hK=>Pz v name K hK) ?_
  refine bV (by simpa using fG) ?_
  refine af (bJ (by rw[LQ,lH];omega):dL ((a.length+t:Nat):Int) (lenOf (aa ((mg a b t y).map dn)).length 0 none)=some (a.length+t)) ?_
  refine af (Hj (by rw[lH];omega):dh (aa ((mg a b t y).map dn)) (a.length+t)=_) ?_
  have jE:aX (aa ((mg a b t y).map dn)) (a.length+t) [.ai (.val (.string v.1)),.ai (.val (.int .i64 v.2))]=aa ((mg a b (t+1) v).map dn):=by rw[<-n1,bh,abW];simp[aa,abW,dn]
  have e1:=br (k:=a.length+t) om;have e2:=br (k:=a.length+1+t) om;refine⟨⟨t+1,v⟩,ht,(show b.length-(t+1)<b.length-t by omega),View.o 3 [0,1] [] ?_ ?_⟩
  .repeat(first|exact .nil|refine .aH ?_|refine .put (.aN e1.symm) ?_|refine .put (.aN e2.symm) ?_|refine .eq rfl ?_)
  .exact .pt rfl rfl (.bn jE) (.pt rfl rfl (.k9 (ds:=[.val (.string name)]) rfl) (.nil _))
 .have h:¬((a.length+1+t:Nat):Int)<((lenOf (aa ((mg a b t y).map dn)).length 0 none:Nat):Int):=h;rw[LQ,lH]at h;have ht:t=b.length:=om;subst ht;have hXl:(aa ((mg a b b.length y).map dn)).length=a.length+b.length+1:=by rw[<-lH];simp[aa]
  have eE:dd (aa ((mg a b b.length y).map dn)) (a.length+b.length) [[.ai (.val (.string ⟨#[]⟩)),.ai (.val (.int .i64 0))]]=aa ((a++b++ [SR]).map dn):=by
   have h1:aa ((mg a b b.length y).map dn)=aa ((a++b).map dn)++ [[.ai (.val (.string y.1)),.ai (.val (.int .i64 y.2))]]:=by simp[mg,aa,dn]
   have h2:(aa ((a++b).map dn)).length=a.length+b.length:=by simp[aa]
   rw[h1,dd,List.take_left' h2,ac2 (by rw[abT,h2];simp)]
   simp[aa,dn,SR]
  generalize hX:aa ((mg a b b.length y).map dn)=X at hXl eE;have hLX:lenOf X.length 0 none=a.length+b.length+1:=hXl;refine bV (t:=(Nat.ble (a.length+b.length) (lenOf X.length 0 none)&&Nat.ble (lenOf X.length 0 none) (X.length-0))) (by rw[hLX,hXl];simp[abR]) ?_
  have U9:dd X (a.length+b.length) (gP (lenOf X.length 0 none-(a.length+b.length)) [.ai (.val (.string ⟨#[]⟩)),.ai (.val (.int .i64 0))])=aa ((a++b++ [SR]).map dn):=by
   rw[hLX,show a.length+b.length+1-(a.length+b.length)=1 by omega]
   exact eE
  refine bV (t:=Nat.ble (lenOf X.length 0 none) X.length) (by rw[hLX,hXl];simp[abR]) ?_
  refine bV (t:=Nat.blt (a.length+b.length) (lenOf X.length 0 none)) (by rw[hLX,aci];omega) ?_
  refine bV (t:=(Nat.ble 0 (a.length+b.length)&&Nat.ble (a.length+b.length) ((dd X (a.length+b.length) (gP (lenOf X.length 0 none-(a.length+b.length)) [.ai (.val (.string ⟨#[]⟩)),.ai (.val (.int .i64 0))])).length-0))) (by rw[U9];simp[aa,abR]) ?_
  exact⟨rfl,congrArg (λz=>[Bk.row 2 z,Py name]) U9⟩
theorem JD(a b:List NE)(x:NE)(hl:a.length+b.length<=4194303)(name:ByteArray)(hx:x.1.toList=name.toList)(ha:∀e,e∈a->e.1.toList≠name.toList)(hb:∀e,e∈b->e.1.toList≠name.toList){m:Mem}{K:CV->Mem->Prop}(i j:Nat)(sM:gR [i,j]=true)(ax:eh m.length [i,j]=true)(hi:dh m i=some (.row 2 (aa ((a++x::b).map dn))))(hj:dh m j=some (Py name))(h:K (.rv (.one (.row i 2 0 (some (a.length+b.length))))) (dt m [i,j] [.row 2 (aa ((a++b++ [SR]).map dn)),Py name])):ap prog 119 [.rv (.one (.row i 2 0 none)),.rv (.one (.fn 120 [j]))] m K:=by
 refine be [i,j] m.length rfl rfl sM ax (args0:=[.rv (.one (.row 0 2 0 none)),.rv (.one (.fn 120 [1]))]) rfl (m0:=[.row 2 (aa ((a++x::b).map dn)),Py name]) (λk b' hk=>?_) (aP func119 l119 (LS a b x hl name hx ha hb)) (λr1 m1 hr=>?_)
 .match k,hk with
  |0,hk=>cases hk;exact .inr ⟨λh=>h,_,by rw[aW]at hi;exact hi,.bn rfl⟩
  |1,hk=>cases hk;exact .inr ⟨λh=>h,_,by rw[aW]at hj;exact hj,.k9 (ds:=[.val (.string name)]) rfl⟩
  |n+2,hk=>simp at hk
 .obtain⟨rfl,rfl⟩:=hr;refine⟨aD,?_⟩;show K (.rv (.one (.row i 2 0 (some (a.length+b.length))))) (dt m [i,j] [.row 2 ((aa ((a++b++ [SR]).map dn)).map (λcs=>cs.map (CC.aN (sg [i,j] m.length)))),Py name])
  rw[iN];exact h
end Go.Proofs.YtllkfpggoigbaaaGreatDoor
