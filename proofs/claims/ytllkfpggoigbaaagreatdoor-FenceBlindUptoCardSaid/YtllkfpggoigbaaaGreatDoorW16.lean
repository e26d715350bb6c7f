/- Part 16 of 23. -/
import Derived.Test.YtllkfpggoigbaaaGreatDoorW11
import Derived.Test.YtllkfpggoigbaaaGreatDoorW12
import Derived.Test.YtllkfpggoigbaaaGreatDoorW14
import Derived.Test.YtllkfpggoigbaaaGreatDoorW15
import Derived.Shelf.Spec.SlicesInsert
import Derived.Lib.AppendZerosOnto
import Derived.Laws.NewBlocks
set_option linter.unusedVariables false
set_option linter.unusedSimpArgs false
set_option maxRecDepth 100000
set_option maxHeartbeats 0
namespace Go.Proofs.YtllkfpggoigbaaaGreatDoor
open Proofs.Tryz
open Go.AM Go.ChangeShapes Go.WideShapes Go.ChangeAt Go.RowKit
open Go.Shelf Go.Lib
theorem mc{P:Program}(w:World)(dT sT ty elem:TypeId)(b o dLen dCap:Nat)(a:Addr)(sLen sCap:Nat)(cs:List Value)(hu:P.underlying dT=some (.slice elem))(hs:(P.info? elem).map (·.size)=some 2)(hn:Nat.min sLen dLen*2=cs.length)(hsrc:∀j v,cs[j]? =some v->w.cell? (a.add j)=some v)(hc:∀j,j<cs.length->(w.cell? ⟨b,o+j,none⟩).isSome=true)(hf:∀j,j<cs.length->w.frozen? ⟨b,o+j,none⟩=false)(h1:∀v∈cs,v.oneCell'=true):
  (Builtin.copy_ #[dT,sT] ty #[.slice (some ⟨b,o,none⟩) dLen dCap,.slice (some a) sLen sCap]).run P w= .ok (goInt (Nat.min sLen dLen)) (w.setCells b o cs):=by
 have hl:=run_loadCells_list (P:=P) w a cs hsrc;have hst:=run_storeCells_cells (P:=P) b o cs 0 w (by simpa using hc) (by simpa using hf) h1
 cases hq:P.info? elem with
 |none=>simp[hq]at hs
 |some i=>
  have hi:i.size=2:=by simpa[hq]using hs
  simp[Builtin.copy_,run_underlying hu,Builtin.lenOf,Builtin.firstCells,sizeOf,typeInfo,hq,hi,hn,hl,hst]
open Go.Shelf Go.Lib in
theorem C8(b off n c i vb voff vc:Nat)(cs vs:List Value)(w:World)(hi:i<n)(hroom:n+1<=c)(hc63:c<=9223372036854775807)(hvb:vb≠b)(hcl:cs.length=n*2)(hvl:vs.length=2)(hcs:∀j v,cs[j]? =some v->w.cell? ⟨b,off+j,none⟩=some v)(hsp:∀j,j<(n+1)*2->(w.cell? ⟨b,off+j,none⟩).isSome=true)(hfz:∀j,j<(n+1)*2->w.frozen? ⟨b,off+j,none⟩=false)(hvs:∀j v,vs[j]? =some v->w.cell? ⟨vb,voff+j,none⟩=some v)(h1c:∀v∈cs,v.oneCell'=true)(h1v:∀v∈vs,v.oneCell'=true)(tA tB:TypeId)(kA kB:Nat)(hsa:w.shape? vb=some (tA,kA))(hsb:w.shape? b=some (tB,kB))(hkB:kB≠0)(hfa:w.frozen? ⟨vb,voff,none⟩=false)(hfe:w.frozen? ⟨vb,kA,none⟩=false):
  Calls prog 150 #[.slice (some ⟨b,off,none⟩) n c,.int .i64 i,.slice (some ⟨vb,voff,none⟩) 1 vc] w λe w'=>
   e= .returned (.slice (some ⟨b,off,none⟩) (n+1) c)/\w'=(w.drew.setCells b (off+(i+1)*2) (cs.drop (i*2))).setCells b (off+i*2) vs:=by
 have hz2:¬((i:Int)=(n:Int)):=om;have hov:∀lb cb,(callFunc 161 #[.slice (some ⟨vb,voff,none⟩) 1 vc,.slice (some ⟨b,off+(i+1)*2,none⟩) lb cb]).run prog w= .ok (.value (.bool false)) w:=λlb cb=>by
  rw[run_callFunc_extern func161 (by kernel_rfl) (by kernel_rfl) (by kernel_rfl) (e:=Extern.SlicesOverlaps.overlaps #[52,52] #[4]) (by kernel_rfl),
   Lib.run_overlaps_apart w 52 4 64 underlying52 2 (λw=>by kernel_rfl) ⟨vb,voff,none⟩ ⟨b,off+(i+1)*2,none⟩ 1 vc lb cb hvb tA tB kA kB hsa hsb hkB hfa hfe]
  rfl
 have eu:(prog.info? 64).map (·.size)=some 2:=by kernel_rfl
 have hdl:(cs.drop (i*2)).length=(n-i)*2:=by rw[acP,hcl,afO]
 have hw1:IntKind.i64.wrap ((i:Int)+1)=(i:Int)+1:=by rw[IntKind.wrap_i64];omega
 have hw2:IntKind.i64.wrap ((n:Int)+1)=(n:Int)+1:=by rw[IntKind.wrap_i64];omega
 have hb1:(0:Int)<=(i:Int)+1:=om;have hin:i<=n:=om;have htn:((i:Int)+1).toNat=i+1:=om;have htn2:((n:Int)+1).toNat=n+1:=om;have hb2:¬(c=i+1):=om;have hb3:(i:Int)<=(n:Int)+1:=om;have hb4:¬(c=i):=om;have hcp1:∀ty dc sc,(Builtin.copy_ #[52,52] ty #[.slice (some ⟨b,off+(i+1)*2,none⟩) (n-i) dc,.slice (some ⟨b,off+i*2,none⟩) (n+1-i) sc]).run prog w.drew= .ok (goInt ((n-i:Nat):Int)) (w.drew.setCells b (off+(i+1)*2) (cs.drop (i*2))):=λty dc sc=>by
  have hm:Nat.min (n+1-i) (n-i)=n-i:=by simp only[afP];split<;>omega
  have:=mc (P:=prog) w.drew 52 52 ty 64 b (off+(i+1)*2) (n-i) dc ⟨b,off+i*2,none⟩ (n+1-i) sc (cs.drop (i*2)) underlying52 eu (by rw[hm,hdl])
   (λj v hj=>by rw[Addr.add_lit,acL];exact hcs (i*2+j) v (by rwa [adi]at hj))
   (λj hj=>by rw[acL];exact hsp _ (by rw[hdl]at hj;omega)) (λj hj=>by rw[acL];exact hfz _ (by rw[hdl]at hj;omega)) (λv hv=>h1c v (adM hv))
  rwa [hm]at this
 obtain⟨W1,hW1⟩:∃W1,W1=w.drew.setCells b (off+(i+1)*2) (cs.drop (i*2)):=⟨_,rfl⟩;have hsp1:∀k,k<(n+1)*2->(W1.cell? ⟨b,off+k,none⟩).isSome=true:=λk hk=>by rw[hW1];exact isSome_setCells b _ _ _ (λj hj=>by rw[acL];exact hsp _ (by rw[hdl]at hj;omega)) _ (hsp k hk)
 have hcp2:∀(W:World),(∀x,W.cell? x=W1.cell? x)->(∀x,W.frozen? x=W1.frozen? x)->∀ty dc,(Builtin.copy_ #[52,52] ty #[.slice (some ⟨b,off+i*2,none⟩) (n+1-i) dc,.slice (some ⟨vb,voff,none⟩) 1 vc]).run prog W= .ok (goInt 1) (W.setCells b (off+i*2) vs):=λW hWc hWf ty dc=>by
  have hm:Nat.min 1 (n+1-i)=1:=by simp only[afP];split<;>omega
  have:=mc (P:=prog) W 52 52 ty 64 b (off+i*2) (n+1-i) dc ⟨vb,voff,none⟩ 1 vc vs underlying52 eu (by rw[hm,hvl])
   (λj v hj=>by
    rw[Addr.add_lit,hWc,hW1,World.cell?_setCells_out b _ _ _ _ (λh _=>absurd h hvb)]
    exact hvs j v hj)
   (λj hj=>by rw[hWc,acL];exact hsp1 _ om) (λj hj=>by rw[hWf,hW1,World.frozen?_setCells,acL];exact hfz _ om) h1v
  rwa [hm]at this
 subst hW1
 go_enter func150,ntmps150
 go_wp2_with (simp only[hov])
 have mixed:prog.follows .mixedOrders=true:=by kernel_rfl
 go_region_law_o (refine step_copy_runI rfl _ _ 52 52 rfl _ _ (by simp[Act.eval,Act.put]) (by simp[Act.eval,Act.put]) (hcp1 _ _ _) ?_)
 go_wp2_with (at_builtin;refine wpList_copy_runI _ rfl _ _ 52 52 rfl _ _ rfl rfl (hcp2 _ (λ_=>rfl) (λ_=>rfl) _ _) ?_)
 go_ret
 exact⟨rfl,rfl⟩
def xn:Value:= .agg #[.string ⟨#[]⟩,.int .i64 0]
open Go.Shelf Go.Lib in
theorem E8(b off n c i vb voff vc:Nat)(cs vs:List Value)(w:World)(hi:i<n)(hnc:n<=c)(hroom:c<n+1)(hbig:(n+1)*24<=140737488355328)(hcl:cs.length=n*2)(hvl:vs.length=2)(hcs:∀j v,cs[j]? =some v->w.cell? ⟨b,off+j,none⟩=some v)(hvs:∀j v,vs[j]? =some v->w.cell? ⟨vb,voff+j,none⟩=some v)(h1c:∀v∈cs,v.oneCell'=true)(h1v:∀v∈vs,v.oneCell'=true):
  Calls prog 150 #[.slice (some ⟨b,off,none⟩) n c,.int .i64 i,.slice (some ⟨vb,voff,none⟩) 1 vc] w λe w'=>
   e= .returned (.slice (some ⟨w.heap.size,0,none⟩) (n+1) (grownCap w (n+1) c 64))/\
   w'=(((w.alloc (.cells ((cs.take (i*2)).toArray++Builtin.zeroCells xn.cells (n+1-i)++Builtin.zeroCells xn.cells (grownCap w (n+1) c 64-(n+1))) 64)).drew.setCells w.heap.size (i*2) vs).drew).setCells w.heap.size ((i+1)*2) (cs.drop (i*2)):=by
 obtain⟨i0,hi0,hz0,hzs,hzb⟩:∃i0,prog.info? 64=some i0/\i0.zero=some xn/\i0.size=2/\i0.bytes=24:=by
  have h9:(prog.info? 64).map (λi=>(i.zero,i.size,i.bytes))=some (some xn,2,24):=by kernel_rfl
  cases hi0:prog.info? 64 with
  |none=>rw[hi0]at h9;cases h9
  |some i0=>
   rw[hi0]at h9;simp only[aaS,abi,Prod.mk.injEq]at h9;exact⟨i0,rfl,h9.1,h9.2.1,h9.2.2⟩
 have hz2:¬((i:Int)=(n:Int)):=om;have hz3:(c:Int)<(n:Int)+1:=om;have eu:(prog.info? 64).map (·.size)=some 2:=by rw[hi0];simp[hzs]
 have hbw:b<w.heap.size:=block_lt_of_cell (hcs 0 _ (xm om));have hvw:vb<w.heap.size:=block_lt_of_cell (hvs 0 _ (xm om));have hwn:IntKind.i64.wrap ((n:Int)+1)=(n:Int)+1:=by rw[IntKind.wrap_i64];omega
 have hwm:IntKind.i64.wrap ((n:Int)+1-(i:Int))=(n:Int)+1-(i:Int):=by rw[IntKind.wrap_i64];omega
 have hkk:(n:Int)+1-(i:Int)=((n+1-i:Nat):Int):=om;have hik:i+(n+1-i)=n+1:=om;have hold:(Builtin.firstCells i0.size i (.slice (some ⟨b,off,none⟩) i c)).run prog w.drew= .ok (cs.take (i*2)).toArray w.drew:=by
  rw[hzs];exact run_firstCells_some w.drew 2 i ⟨b,off,none⟩ i c (cs.take (i*2)) (by rw[abg];omega) (λj v hj=>by
   rw[Addr.add_lit];rw[abI]at hj;split at hj
   .exact hcs j v hj
   .cases hj)
 have hrz:∀ty,(Builtin.append_ #[52,3] ty #[.slice (some ⟨b,off,none⟩) i c,.int .i64 ((n:Int)+1-(i:Int))]).run prog w=
   .ok (.slice (some ⟨w.heap.size,0,none⟩) (n+1) (grownCap w (n+1) c 64)) (w.drew.alloc (.cells ((cs.take (i*2)).toArray++Builtin.zeroCells xn.cells (n+1-i)++Builtin.zeroCells xn.cells (grownCap w (n+1) c 64-(n+1))) 64)):=λty=>by
  have h:=Lib.run_append_grow_zeros (P:=prog) w 52 3 ty 64 i0 _ .i64 .i64 underlying52 underlying3 hi0 hz0 (some ⟨b,off,none⟩) i c (cs.take (i*2)) hold (n+1-i) om om om om (by rw[hzb];omega) (by rw[hzb,hik];exact growslice_fits hroom hbig)
  rw[hik]at h;rw[hkk];exact h
 obtain⟨G,hG⟩:∃G,G=grownCap w (n+1) c 64:=⟨_,rfl⟩;obtain⟨ROW,hROW⟩:∃ROW:Array Value,ROW=(cs.take (i*2)).toArray++Builtin.zeroCells xn.cells (n+1-i)++Builtin.zeroCells xn.cells (G-(n+1)):=⟨_,rfl⟩;rw[<-hG]at hrz|-;rw[<-hROW]at hrz|-;have hRl:(n+1)*2<=ROW.size:=by rw[hROW];simp[Builtin.zeroCells,Value.cells,xn];omega
 obtain⟨W1,hW1⟩:∃W1,W1=w.drew.alloc (.cells ROW 64):=⟨_,rfl⟩;rw[<-hW1]at hrz;have hN:∀j,j<(n+1)*2->(W1.cell? ⟨w.heap.size,j,none⟩).isSome=true:=λj hj=>by rw[hW1,World.cell?_alloc_at (w:=w.drew) ROW _ w.heap.size j rfl,adv om];rfl
 have hNf:∀j,W1.frozen? ⟨w.heap.size,j,none⟩=false:=λj=>by rw[hW1];exact World.frozen?_alloc_at (w:=w.drew) ROW _ w.heap.size j rfl
 have hOb:∀j v,w.cell? ⟨b,j,none⟩=some v->W1.cell? ⟨b,j,none⟩=some v:=λj v h=>by rw[hW1,World.cell?_alloc_past (w:=w.drew) _ b j hbw];exact h
 have hOv:∀j v,w.cell? ⟨vb,j,none⟩=some v->W1.cell? ⟨vb,j,none⟩=some v:=λj v h=>by rw[hW1,World.cell?_alloc_past (w:=w.drew) _ vb j hvw];exact h
 have hcpA:∀(W:World),(∀x,W.cell? x=W1.cell? x)->(∀x,W.frozen? x=W1.frozen? x)->∀ty dc,(Builtin.copy_ #[52,52] ty #[.slice (some ⟨w.heap.size,i*2,none⟩) (n+1-i) dc,.slice (some ⟨vb,voff,none⟩) 1 vc]).run prog W= .ok (goInt 1) (W.setCells w.heap.size (i*2) vs):=λW hWc hWf ty dc=>by
  have hm:Nat.min 1 (n+1-i)=1:=by simp only[afP];split<;>omega
  have:=mc (P:=prog) W 52 52 ty 64 w.heap.size (i*2) (n+1-i) dc ⟨vb,voff,none⟩ 1 vc vs underlying52 eu (by rw[hm,hvl])
   (λj v hj=>by rw[Addr.add_lit,hWc];exact hOv _ v (hvs j v hj))
   (λj hj=>by rw[hWc];exact hN _ om) (λj hj=>by rw[hWf];exact hNf _) h1v
  rwa [hm]at this
 have hGn:n+1<=G:=by rw[hG];exact grownCap_ge w _ _ _
 have hG63:G<=9223372036854775807:=by
  have:=grownCap_le_maxLen w (n+1) c 64 (by unfold maxLen;omega)
  rw[<-hG]at this;unfold maxLen at this;omega
 have hGi:¬(G=i):=om;have hGim:¬(G=i+1):=om;have hci:¬(c=i):=om;have hbN:b≠w.heap.size:=om;have hdl:(cs.drop (i*2)).length=(n-i)*2:=by rw[acP,hcl,afO]
 have hcpB:∀(W:World),(∀x,W.cell? x=(W1.setCells w.heap.size (i*2) vs).cell? x)->(∀x,W.frozen? x=(W1.setCells w.heap.size (i*2) vs).frozen? x)->∀ty dc sc,(Builtin.copy_ #[52,52] ty #[.slice (some ⟨w.heap.size,(i+1)*2,none⟩) (n-i) dc,.slice (some ⟨b,off+i*2,none⟩) (n-i) sc]).run prog W= .ok (goInt ((n-i:Nat):Int)) (W.setCells w.heap.size ((i+1)*2) (cs.drop (i*2))):=λW hWc hWf ty dc sc=>by
  have hm:Nat.min (n-i) (n-i)=n-i:=by simp[afP]
  have:=mc (P:=prog) W 52 52 ty 64 w.heap.size ((i+1)*2) (n-i) dc ⟨b,off+i*2,none⟩ (n-i) sc (cs.drop (i*2)) underlying52 eu (by rw[hm,hdl])
   (λj v hj=>by
    rw[Addr.add_lit,hWc,World.cell?_setCells_out _ _ _ _ _ (λh _=>absurd h hbN),acL]
    exact hOb _ v (hcs (i*2+j) v (by rwa [adi]at hj)))
   (λj hj=>by rw[hWc];exact isSome_setCells _ _ _ _ (λt ht=>hN _ om) _ (hN _ om))
   (λj hj=>by rw[hWf,World.frozen?_setCells];exact hNf _) (λv hv=>h1c v (adM hv))
  rwa [hm]at this
 subst hW1;have hE1:∀x,((w.alloc (.cells ROW 64)).drew).cell? x=(w.drew.alloc (.cells ROW 64)).cell? x:=λx=>rfl
 have hE2:∀x,((w.alloc (.cells ROW 64)).drew).frozen? x=(w.drew.alloc (.cells ROW 64)).frozen? x:=λx=>rfl
 have hF1:∀x,(((w.alloc (.cells ROW 64)).drew.setCells w.heap.size (i*2) vs).drew).cell? x=((w.drew.alloc (.cells ROW 64)).setCells w.heap.size (i*2) vs).cell? x:=λx=>rfl
 have hF2:∀x,(((w.alloc (.cells ROW 64)).drew.setCells w.heap.size (i*2) vs).drew).frozen? x=((w.drew.alloc (.cells ROW 64)).setCells w.heap.size (i*2) vs).frozen? x:=λx=>rfl
 have hw1:IntKind.i64.wrap ((i:Int)+1)=(i:Int)+1:=by rw[IntKind.wrap_i64];omega
 have hb1:(0:Int)<=(i:Int)+1:=om;have hin:i<=n:=om;have htn:((i:Int)+1).toNat=i+1:=om;have hb3:(i:Int)<=(n:Int):=om;have hnn:n+1-(i+1)=n-i:=om;clear hkk hik hold hROW hG hRl;have mixed:prog.follows .mixedOrders=true:=by kernel_rfl
 go_enter func150,ntmps150
 go_wp2_with (first
  |(at_builtin;refine Lib.wpList_append_run _ rfl _ _ _ _ rfl _ _ rfl rfl _ _ (hrz _) ?_)
  |(at_builtin;refine wpList_copy_runI _ rfl _ _ 52 52 rfl _ _ rfl rfl (hcpA _ hE1 hE2 _ _) ?_)
  |(at_builtin;refine wpList_copy_runI _ rfl _ _ 52 52 rfl _ _ rfl rfl (hcpB _ (λ_=>rfl) (λ_=>rfl) _ _ _) ?_))
 go_region_law_o (refine step_copy_runI rfl _ _ 52 52 rfl (.slice (some ⟨w.heap.size,(i+1)*2,none⟩) (n-i) (G-(i+1))) (.slice (some ⟨b,off+i*2,none⟩) (n-i) (c-i)) (by simp[Act.eval,Act.put]) (by simp[Act.eval,Act.put]) (hcpB _ hF1 hF2 3 (G-(i+1)) (c-i)) ?_)
 go_wp2
 go_ret
 exact⟨rfl,rfl⟩
end Go.Proofs.YtllkfpggoigbaaaGreatDoor
namespace Go.Proofs.YtllkfpggoigbaaaGreatDoor
open Proofs.Tryz
open Go.AM Go.ChangeShapes Go.WideShapes Go.ChangeAt Go.RowKit
theorem jT{mk:Prop}{b:Nat}:∀(vs:List Value)(o:Nat)(w:World)(cur:Array Value),nN mk w b cur->o+vs.length<=cur.size->
  ∃iT,nN mk (w.setCells b o vs) b iT/\nR w (w.setCells b o vs) b/\iT.size=cur.size/\∀k,iT[k]? =if o<=k/\k<o+vs.length then vs[k-o]? else cur[k]?
 | [],o,w,cur,hc,_=>⟨cur,hc,⟨λ_ _=>rfl,rfl,rfl,rfl,rfl⟩,rfl,λk=>by rw[if_neg aG]⟩
 |v::r,o,w,cur,hc,hle=>by
  have GA:nN mk (w.setCell ⟨b,o,none⟩ v) b (cur.setIfInBounds o v):=by
   obtain⟨ty,fr,hb,hf⟩:=hc;refine⟨ty,fr,?_,by simpa using hf⟩
   simp[World.setCell,ads,hb]
  have Ce:nR w (w.setCell ⟨b,o,none⟩ v) b:=⟨λb hb=>by simp[World.setCell,ads,Ne.symm hb],aG,rfl,rfl,rfl⟩
  simp only[aaY]at hle;obtain⟨iT,h1,ht,h2,h3⟩:=jT (mk:=mk) r (o+1) _ _ GA (by simp;omega)
  refine⟨iT,h1,⟨λb hb=>(ht.heap b hb).trans (Ce.heap b hb),ht.size.trans Ce.size,ht.os,ht.tape,ht.output⟩,by rw[h2];simp,λk=>?_⟩
  rw[h3 k];simp only[aaY];by_cases hk:k=o
  .subst hk;rw[if_neg om,if_pos om,aeg om];simp
  .by_cases mC:o+1<=k/\k<o+1+r.length
   .rw[if_pos mC,if_pos om];obtain⟨j,rfl⟩:∃j,k=o+1+j:=⟨k-(o+1),om⟩;rw[show o+1+j-(o+1)=j by omega,show o+1+j-o=j+1 by omega,adF]
   .rw[if_neg mC,if_neg om,aeO om]
theorem HY{S:List (List Dt)}{i:Nat}{cs:List CC}(h:(aa S)[i]? =some cs):∃ds,S[i]? =some ds/\cs=ds.map .ai:=by simp only[aa,Rn]at h;obtain⟨ds,h1,h2⟩:=aba.1 h;exact⟨ds,h1,h2.symm⟩
theorem Kh{S:List (List Dt)}{e:List Dt}{i:Nat}(hi:i<S.length)(k:Nat)(ds:List Dt)(h:(S.take i++e::S.drop i)[k]? =some ds):(k<i/\S[k]? =some ds)\/(k=i/\ds=e)\/(i<k/\S[k-1]? =some ds):=by
 have hl:(S.take i).length=i:=by rw[abg];omega
 rcases aex k i with h1|h1|h1
 .rw[aaM om,abI,if_pos h1]at h;exact .inl ⟨h1,h⟩
 .subst h1;rw[aaO om,hl,aea]at h;exact .inr (.inl ⟨rfl,by simpa using h.symm⟩)
 .rw[aaO om,hl,show k-i=(k-1-i)+1 by omega,adF,adi,show i+(k-1-i)=k-1 by omega]at h
  exact .inr (.inr ⟨h1,h⟩)
theorem Mz(S:List (List Dt))(e:List Dt)(i:Nat)(hi:i<S.length)(hl:S.length<=4194304):aq prog 150 [.rv (.one (.row 0 2 0 none)),am .i64 (i:Nat),.rv (.one (.row 1 2 0 none))] [.row 2 (aa S),.row 2 (aa [e])]
  (λr m=>r= .rv (.one (.row 2 2 0 none))/\m=[.aE,.aE,.row 2 (aa (S.take i++e::S.drop i))]):=by
 refine⟨⟨f150,func150,rfl,by decide⟩,λρ w vs hM wv hd=>?_⟩
 obtain⟨v0,h0,d0⟩:=hd 0 _ rfl;obtain⟨v1,h1,d1⟩:=hd 1 _ rfl;obtain⟨v2,h2,d2⟩:=hd 2 _ rfl;have Gc:vs=[v0,v1,v2]:=by
  match vs,wv with
  | [a,b,c],_=>simp at h0 h1 h2;rw[h0,h1,h2]
 have D4:v1= .int .i64 (i:Nat):=(cf d1).1;obtain⟨_,_,_,alf,X0,a0,DK,TI⟩:=(show bJ ρ w none (.row 0 2 0 none) v0 from d0);obtain⟨_,_,_,aaL,SJ,a1,Al,ha1⟩:=(show bJ ρ w none (.row 1 2 0 none) v2 from d2);obtain⟨agm,_,_,agn,ago⟩:=hM.bk 0 _ rfl;obtain⟨agp,_,_,aaC,agq⟩:=hM.bk 1 _ rfl;have abL:(ρ.aW (.aA 0)).len=S.length:=by rw[<-agm];simp[aa]
 have abM:(ρ.aW (.aA 1)).len=1:=by rw[<-agp];simp[aa]
 have Qi:0<(ρ.aW (.aA 0)).cap:=om;have Jr:0<(ρ.aW (.aA 1)).cap:=om;obtain⟨Qj,BF,Es,TK⟩:=ago Qi;obtain⟨Qk,Ql,aaN,TL⟩:=agq Jr;have TI:=TI Qi;have ha1:=ha1 Jr;have Qm:Live ρ [.row 2 (aa S),.row 2 (aa [e])] (.aA 0):=⟨_,rfl,aG,λ_=>Qi⟩
 have abN:Live ρ [.row 2 (aa S),.row 2 (aa [e])] (.aA 1):=⟨_,rfl,aG,λ_=>Jr⟩
 have hvb:(ρ.aW (.aA 1)).b≠(ρ.aW (.aA 0)).b:=λhe=>by have:=hM.inj _ _ abN Qm he;cases this
 simp only[aed,adW,Nat.zero_mul,aeo]at DK Al TI ha1;have Sp:ρ.n=2:=hM.n;have ad6:=hM;generalize Xh:ρ.aW (.aA 0)=L0 at*
 generalize hL1:ρ.aW (.aA 1)=L1 at*
 obtain⟨b,aB,len,cap⟩:=L0;obtain⟨vb,BG,alg,X1⟩:=L1;simp only at*
 subst abL abM;have X2:=BF.lt;have V5:∀(k:Nat)(ds:List Dt),S[k]? =some ds->ds.length=2:=λk ds hk=>by
  have:=agn (ds.map .ai) (Wm (i:=k) (by simp[aa,hk]))
  simpa using this
 have pW:e.length=2:=by
  have:=aaC (e.map .ai) (by simp[aa])
  simpa using this
 obtain⟨cs,abO⟩:∃cs,cs=(Qj.toList.drop aB).take (S.length*2):=⟨_,rfl⟩;have ia:cs.length=S.length*2:=by have:=adP (xs:=Qj);rw[abO,abg,acP];omega
 have SX:∀j,j<S.length*2->cs[j]? =Qj[aB+j]? :=λj hj=>by rw[abO,abI,if_pos hj,adi,aeb]
 obtain⟨vv,abP⟩:∃vv,vv=(Qk.toList.drop BG).take 2:=⟨_,rfl⟩;have C9:vv.length=2:=by have:=adP (xs:=Qk);rw[abP,abg,acP];omega
 have hvg:∀j,j<2->vv[j]? =Qk[BG+j]? :=λj hj=>by rw[abP,abI,if_pos hj,adi,aeb]
 have Qn:∀(k:Nat)(ds:List Dt)(j:Nat)(d:Dt),S[k]? =some ds->ds[j]? =some d->∃u,cs[k*2+j]? =some u/\dG ρ.S w d u:=λk ds j d hk hj=>by
  have ef:=(Mp.1 hk).1;have gH:=(Mp.1 hj).1;rw[V5 k ds hk]at gH;obtain⟨u,hu,cP⟩:=TK k (ds.map .ai) j (.ai d) (by simp[aa,hk]) (by simp[hj])
  exact⟨u,by rw[SX _ om,<-acL];exact hu,cP⟩
 have V6:∀(j:Nat)(d:Dt),e[j]? =some d->∃u,vv[j]? =some u/\dG ρ.S w d u:=λj d hj=>by
  have gH:=(Mp.1 hj).1;rw[pW]at gH;obtain⟨u,hu,cP⟩:=TL 0 (e.map .ai) j (.ai d) (by simp[aa]) (by simp[hj])
  exact⟨u,by rw[hvg _ gH];simpa using hu,cP⟩
 have V7:∀v∈cs,v.oneCell'=true:=λv hv=>by
  obtain⟨j,hj⟩:=aag hv;have gH:=(Mp.1 hj).1;have hk:j/2<S.length:=om;have Gb:=V5 (j/2) S[j/2] (xm hk);obtain⟨u,hu,cP⟩:=Qn (j/2) S[j/2] (j%2) (S[j/2][j%2]'(by omega)) (xm hk) (xm _)
  rw[show j/2*2+j%2=j by omega,hj]at hu
  cases hu;exact cP.one
 have V8:∀v∈vv,v.oneCell'=true:=λv hv=>by
  obtain⟨j,hj⟩:=aag hv;have gH:=(Mp.1 hj).1;obtain⟨u,hu,cP⟩:=V6 j (e[j]'(by omega)) (xm _)
  rw[hj]at hu;cases hu;exact cP.one
 have Cx:∀(j:Nat)(v:Value),cs[j]? =some v->w.cell? ⟨b,aB+j,none⟩=some v:=λj v hj=>by
  rw[BF.cell,<-SX j (by rw[<-ia];exact(Mp.1 hj).1)];exact hj
 have Cy:∀(j:Nat)(v:Value),vv[j]? =some v->w.cell? ⟨vb,BG+j,none⟩=some v:=λj v hj=>by
  rw[Ql.cell,<-hvg j (by rw[<-C9];exact(Mp.1 hj).1)];exact hj
 have ez:vs.toArray= #[.slice (some ⟨b,aB,none⟩) S.length cap,.int .i64 (i:Nat),.slice (some ⟨vb,BG,none⟩) 1 X1]:=by rw[Gc,DK,D4,Al,TI,ha1]
 rw[ez];have E9:∀(w':World)(l:AM.Ag)(iT:Array Value),j7 ρ w (ρ.move l λ_ _=>.sub 0 0 0) w'->(∀k,k<i*2->iT[l.aB+k]? =cs[k]?)->(∀k,k<2->iT[l.aB+(i*2+k)]? =vv[k]?)->(∀k,k<(S.length-i)*2->iT[l.aB+((i+1)*2+k)]? =cs[i*2+k]?)->
   ∀(k:Nat)Gl(j:Nat)c,(aa (S.take i++e::S.drop i))[k]? =some Gl->Gl[j]? =some c->∃u,iT[l.aB+k*2+j]? =some u/\bJ (ρ.move l λ_ _=>.sub 0 0 0) w' (some (ρ.n,k,j)) c u:=by
  intro w' l iT g q1 q2 q3 k Gl j c hk hj;obtain⟨ds,GN,rfl⟩:=HY hk;rw[Rn]at hj;obtain⟨d,xA,rfl⟩:=aba.1 hj;have gH:=(Mp.1 xA).1;rcases Kh hi k ds GN with⟨Sf,hS⟩|⟨rfl,rfl⟩|⟨Sf,hS⟩
  .rw[V5 k ds hS]at gH;obtain⟨u,hu,cP⟩:=Qn k ds j d hS xA;exact⟨u,by rw[acL,q1 _ om];exact hu,cP.mono g.S g.heap⟩
  .rw[pW]at gH;obtain⟨u,hu,cP⟩:=V6 j d xA;exact⟨u,by rw[acL,q2 _ gH];exact hu,cP.mono g.S g.heap⟩
  .rw[V5 _ ds hS]at gH;obtain⟨u,hu,cP⟩:=Qn (k-1) ds j d hS xA;have ef:=(Mp.1 hS).1;refine⟨u,?_,cP.mono g.S g.heap⟩;rw[acL,show k*2+j=(i+1)*2+((k-1-i)*2+j) by omega,q3 _ om,show i*2+((k-1-i)*2+j)=(k-1)*2+j by omega]
   exact hu
 have JM:(aa (S.take i++e::S.drop i)).length=S.length+1:=by simp[aa];omega
 have Gd:∀cs,cs∈aa (S.take i++e::S.drop i)->cs.length=2:=λGl hm=>by
  obtain⟨k,hk⟩:=aag hm;obtain⟨ds,GN,rfl⟩:=HY hk;rw[P2];rcases Kh hi k ds GN with⟨_,hS⟩|⟨_,rfl⟩|⟨_,hS⟩
  .exact V5 _ _ hS
  .exact pW
  .exact V5 _ _ hS
 have kj:∀(k:Nat)Gl(j:Nat)s el,(aa (S.take i++e::S.drop i))[k]? =some Gl->Gl[j]? =some (.jj s el)->False:=λk Gl j s el hk hj=>by obtain⟨ds,_,rfl⟩:=HY hk;rw[Rn]at hj;obtain⟨d,_,h⟩:=aba.1 hj;cases h
 have rq:([.aE,.aE]:Mem).length=([.row 2 (aa S),.row 2 (aa [e])]:Mem).length:=rfl;have lT:∀(id:Nat)bk,([.aE,.aE]:Mem)[id]? =some bk->bk= .aE\/(([.row 2 (aa S),.row 2 (aa [e])]:Mem)[id]? =some bk/\¬(id=0\/id=1)):=λid bk h=>by
  match id,h with
  |0,h=>cases h;exact .inl rfl
  |1,h=>cases h;exact .inl rfl
  |id+2,h=>simp at h
 have Fa:∀k,(cs.drop (i*2))[k]? =cs[i*2+k]? :=λk=>by rw[adi]
 have lF:(cs.drop (i*2)).length=(S.length-i)*2:=by rw[acP,ia,afO]
 by_cases pG:S.length+1<=cap
 ·
  obtain⟨ty0,fr0,hh0,alj,alk,alm⟩:=id BF;obtain⟨ty1,fr1,hh1,alp,alq,abQ⟩:=id Ql;have abQ:fr1.2<=Qk.size:=by
   rcases abQ with h|h
   .cases h
   .exact h
  have Av:∀j,j<(S.length+1)*2->(w.cell? ⟨b,aB+j,none⟩).isSome=true:=λj hj=>by rw[BF.cell,adv om];rfl
  have AD:=C8 b aB S.length cap i vb BG X1 cs vv w hi pG (by unfold maxLen at X0;omega) hvb ia C9 Cx Av (λj hj=>BF.se om) Cy V7 V8 ty1 ty0 Qk.size Qj.size
   (by simp[World.shape?,hh1]) (by simp[World.shape?,hh0]) om (Ql.se om) (by simp only[World.frozen?,hh1];simp;omega)
  refine AD.mono ?_;rintro e' w' ⟨rfl,rfl⟩;obtain⟨c1,GA,Ce,NV,lP⟩:=jT (cs.drop (i*2)) (aB+(i+1)*2) w.drew Qj (BF.cT rfl) (by rw[lF];omega)
  obtain⟨c2,yf,yd,VA,mC⟩:=jT vv (aB+i*2) _ c1 GA (by rw[C9];omega)
  have hT:nR w ((w.drew.setCells b (aB+(i+1)*2) (cs.drop (i*2))).setCells b (aB+i*2) vv) b:=
   ⟨λx hx=>((yd.heap x hx).trans (Ce.heap x hx)).trans rfl,(yd.size.trans Ce.size).trans rfl,(yd.os.trans Ce.os).trans rfl,(yd.tape.trans Ce.tape).trans rfl,(yd.output.trans Ce.output).trans rfl⟩
  obtain⟨oq,hX⟩:=hM.move (w':=(w.drew.setCells b (aB+(i+1)*2) (cs.drop (i*2))).setCells b (aB+i*2) vv) (m1:=[.aE,.aE]) (D:=λid=>id=0\/id=1) (esz:=2) (E:=aa (S.take i++e::S.drop i)) (l:=⟨b,aB,S.length+1,cap⟩) (src:=λ_ _=>.sub 0 0 0)
   rq lT (by rw[hT.size];exact aah _) hT.os hT.tape hT.output (λx hx gj=>hT.heap x (λhe=>gj 0 (.inl rfl) Qm (by rw[Xh];exact he.symm)))
   (λ_=>⟨by rw[hT.size];exact X2,.inr ⟨0,.inl rfl,Qm,by rw[Xh]⟩⟩) JM pG X0 Gd
   (λg _=>⟨c2,yf,by rw[VA,NV];exact Es,E9 _ ⟨b,aB,S.length+1,cap⟩ c2 g (λk hk=>by
    show c2[aB+k]? =_;rw[mC,if_neg (by rw[C9];omega),lP,if_neg om,SX _ om]) (λk hk=>by
    show c2[aB+(i*2+k)]? =_;rw[mC,if_pos (by rw[C9];omega),show aB+(i*2+k)-(aB+i*2)=k by omega]) (λk hk=>by
    show c2[aB+((i+1)*2+k)]? =_;rw[mC,if_neg (by rw[C9];omega),lP,if_pos (by rw[lF];omega),show aB+((i+1)*2+k)-(aB+(i+1)*2)=k by omega,Fa])⟩)
   (λk Gl j s el hk hj=>(kj k Gl j s el hk hj).elim) (λ_ _ _ _ _⟨Gl,s,el,hk,hj⟩ _=>(kj _ Gl _ s el hk hj).elim)
  refine⟨_,_,_,_,rfl,⟨rfl,rfl⟩,oq,?_,hX⟩;refine⟨by simp[b9.move,Sp],?_⟩
  have uZ:(ρ.move ⟨b,aB,S.length+1,cap⟩ λ_ _=>.sub 0 0 0).aW (.aA 2)=⟨b,aB,S.length+1,cap⟩:=by simp[b9.move,Sp]
  rw[uZ];exact⟨aad _,aah _,pG,X0,_,rfl,λ_=>aG⟩
 ·
  have AD:=E8 b aB S.length cap i vb BG X1 cs vv w hi om om om ia C9 Cx Cy V7 V8;refine AD.mono ?_;rintro e' w' ⟨rfl,rfl⟩;have hGn:S.length+1<=grownCap w (S.length+1) cap 64:=grownCap_ge w _ _ _;have hGm:grownCap w (S.length+1) cap 64<=maxLen:=grownCap_le_maxLen w (S.length+1) cap 64 (by unfold maxLen;omega)
  generalize grownCap w (S.length+1) cap 64=G at*
  obtain⟨ROW,HX⟩:∃ROW:Array Value,ROW=(cs.take (i*2)).toArray++Builtin.zeroCells xn.cells (S.length+1-i)++Builtin.zeroCells xn.cells (G-(S.length+1)):=⟨_,rfl⟩;rw[<-HX];have hRs:ROW.size=G*2:=by rw[HX];simp[Builtin.zeroCells,Value.cells,xn,abg,ia];omega
  have hRg:∀k,k<i*2->ROW[k]? =cs[k]? :=λk hk=>by
   rw[HX,Array.append_assoc,ad1 (by simp[ia];omega)]
   simp[abI,hk]
  have hA:fu w (w.alloc (.cells ROW 64)).drew:=(fu.alloc w _).trans (fu.drew _);obtain⟨c1,GA,Ce,NV,lP⟩:=jT (mk:=(2:Nat)=1) vv (i*2) (w.alloc (.cells ROW 64)).drew ROW ((nN.new w ROW 64).cT rfl) (by rw[C9];omega)
  obtain⟨c2,yf,yd,VA,mC⟩:=jT (mk:=(2:Nat)=1) (cs.drop (i*2)) ((i+1)*2) ((w.alloc (.cells ROW 64)).drew.setCells w.heap.size (i*2) vv).drew c1 (GA.cT rfl) (by rw[lF];omega)
  have eu:w.heap.size<((((w.alloc (.cells ROW 64)).drew.setCells w.heap.size (i*2) vv).drew).setCells w.heap.size ((i+1)*2) (cs.drop (i*2))).heap.size:=by rw[yd.size];show w.heap.size<((w.alloc (.cells ROW 64)).drew.setCells w.heap.size (i*2) vv).heap.size;rw[Ce.size];show w.heap.size<(w.alloc (.cells ROW 64)).heap.size;simp
  obtain⟨oq,hX⟩:=hM.move (w':=(((w.alloc (.cells ROW 64)).drew.setCells w.heap.size (i*2) vv).drew).setCells w.heap.size ((i+1)*2) (cs.drop (i*2))) (m1:=[.aE,.aE]) (D:=λid=>id=0\/id=1) (esz:=2) (E:=aa (S.take i++e::S.drop i)) (l:=⟨w.heap.size,0,S.length+1,G⟩) (src:=λ_ _=>.sub 0 0 0)
   rq lT (Nat.le_of_lt eu) ((yd.os.trans Ce.os).trans rfl) ((yd.tape.trans Ce.tape).trans rfl) ((yd.output.trans Ce.output).trans rfl)
   (λx hx _=>((yd.heap x om).trans (Ce.heap x om)).trans (hA.heap x hx))
   (λ_=>⟨eu,.inl (aah _)⟩) JM hGn hGm Gd
   (λg _=>⟨c2,yf,by rw[VA,NV,hRs];show 0+G*2<=G*2;omega,E9 _ ⟨w.heap.size,0,S.length+1,G⟩ c2 g (λk hk=>by
    show c2[0+k]? =_;rw[acA,mC,if_neg om,lP,if_neg om,hRg _ hk]) (λk hk=>by
    show c2[0+(i*2+k)]? =_;rw[acA,mC,if_neg om,lP,if_pos (by rw[C9];omega),show i*2+k-i*2=k by omega]) (λk hk=>by
    show c2[0+((i+1)*2+k)]? =_;rw[acA,mC,if_pos (by rw[lF];omega),show(i+1)*2+k-(i+1)*2=k by omega,Fa])⟩)
   (λk Gl j s el hk hj=>(kj k Gl j s el hk hj).elim) (λ_ _ _ _ _⟨Gl,s,el,hk,hj⟩ _=>(kj _ Gl _ s el hk hj).elim)
  refine⟨_,_,_,_,rfl,⟨rfl,rfl⟩,oq,?_,hX⟩;refine⟨by simp[b9.move,Sp],?_⟩
  have uZ:(ρ.move ⟨w.heap.size,0,S.length+1,G⟩ λ_ _=>.sub 0 0 0).aW (.aA 2)=⟨w.heap.size,0,S.length+1,G⟩:=by simp[b9.move,Sp]
  rw[uZ];exact⟨aad _,aah _,hGn,hGm,_,rfl,λ_=>aG⟩
def Obj.ob(o:Obj):Ob:=⟨o.ah,o.data,o.ag,o.target,o.aI,.sl 4 (o.aj.map cJ.enc),o.aQ,o.ak,o.up⟩
theorem X3(l:List Obj):cX l=iH (l.map Obj.ob):=by show Dt.sl 9 (l.map Obj.enc)=Dt.sl 9 ((l.map Obj.ob).map Ob.enc);rw[adu];rfl
def iP(l:List Obj)(n p:Nat)(name:ByteArray):List Obj:=match l[n]? with
 |none=>l
 |some o=>match (l.set n {o with ag:=(gw (name,(p:Int)) (o.ag.map kN)).map bT})[p]? with
  |none=>l
  |some q=>(l.set n {o with ag:=(gw (name,(p:Int)) (o.ag.map kN)).map bT}).set p {q with ak:=IntKind.i64.wrap (q.ak+1),up:=if q.ah=2 then(n:Int)else q.up}
def wP(b:Bool)(o:Obj)(y:List Obj)(name:ByteArray):List Obj×Int:=
 if o.ah≠2 then([],11)else if o.ak=0 then([],6)else if b=false then([],7)else if fq (o.ag.map kN) name>=0 then([],7)else if o.ag.length>=8 then([],15)else(y,0)
def mQ(l:List Obj)(k ah:Int):Bool:=gx (l.map Obj.ob) k ah
def cn(b:Bool)(l:List Obj)(dir:Int)(name:ByteArray)(obj:Int):List Obj×Int:=
 if mQ l dir 0=true then(if mQ l obj 0=true then(match l[dir.toNat]? with
  |none=>([],6)
  |some o=>wP b o (iP l dir.toNat obj.toNat name) name)else([],6))else([],6)
theorem zm{l:List Obj}{k:Int}(h:k<0):mQ l k 0=false:=by
 unfold mQ gx;rw[decide_eq_false (by omega:¬k>=0)];rfl
theorem zn{l:List Obj}{k:Int}(h:k>=(l.length:Int)):mQ l k 0=false:=by
 unfold mQ gx;rw[P2,decide_eq_false (by omega:¬k<(l.length:Int))];simp
theorem zo{l:List Obj}{n:Nat}(hn:n<l.length)(h:l[n].ah=0):mQ l n 0=false:=by unfold mQ gx;rw[aam,Rn,xm hn];have:l[n].ob.ah=0:=h;simp[this]
theorem zp{l:List Obj}{n:Nat}(hn:n<l.length)(h:l[n].ah≠0):mQ l n 0=true:=by unfold mQ gx;rw[aam,Rn,xm hn,P2];have:l[n].ob.ah≠0:=h;simp[this,hn]
theorem jU{l:List Obj}{k:Nat}(h:k<l.length):cH (l.map Obj.enc) (k:Nat)=some [.val (.int .i64 l[k].ah),.sl 1 l[k].data,.sl 2 l[k].ag,.val (.string l[k].target),.val (.int .i64 l[k].aI),.sl 4 (l[k].aj.map cJ.enc),.val (.int .i64 l[k].aQ),.val (.int .i64 l[k].ak),.val (.int .i64 l[k].up)]:=by rw[aY,Rn,xm h];rfl
theorem abR{Y:Nat->Nat}{m:Mem}{Z:Nat->Prop}{a a' b b':RV}(h1:Ac Y m Z a a')(h2:Ac Y m Z b b'):ta Y m Z (.bI [a,b]) (.bI [a',b']):=by
 refine .bI rfl λi r r' h3 h4=>?_
 match i with
 |0=>cases h3;cases h4;exact h1
 |1=>cases h3;cases h4;exact h2
 |n+2=>simp at h3
theorem abS{Y:Nat->Nat}{m:Mem}{Z:Nat->Prop}{a a' b b' c c':RV}(h1:Ac Y m Z a a')(h2:Ac Y m Z b b')(h0:Ac Y m Z c c'):ta Y m Z (.bI [a,b,c]) (.bI [a',b',c']):=by
 refine .bI rfl λi r r' h3 h4=>?_
 match i with
 |0=>cases h3;cases h4;exact h1
 |1=>cases h3;cases h4;exact h2
 |2=>cases h3;cases h4;exact h0
 |n+3=>simp at h3
theorem rC{p Q:Nat}{l:List Obj}{k:Nat}{o:Obj}(hk:k<l.length):aZ (cm p Q 0 l) k (mb p Q k o)=cm p Q 0 (l.set k o):=by
 rw[br];apply acq;intro i;rw[g9,acA];by_cases h:k=i
 .subst h;rw[aal (by rw[gZ];exact hk),aal hk]
  rfl
 .rw[aap h,aap h,g9,acA]
theorem HZ{p Q Q':Nat}{l:List Obj}{o:Obj}(hp:l[p]? =some o):aZ (cm p Q 0 l) p (mb p Q' p o)=cm p Q' 0 l:=by
 have fb:=(Mp.1 hp).1;rw[br];apply acq;intro i;rw[g9,acA];by_cases h:p=i
 .subst h;rw[aal (by rw[gZ];exact fb),hp]
  rfl
 .rw[aap h,g9,acA];cases l[i]? with
  |none=>rfl
  |some x=>
   have h2:¬i=p:=λe=>h e.symm
   simp only[aaS,mb,if_neg h2]
theorem Ki{m:Mem}{Z:Nat->Prop}{pp:Option Nat}{id p Q:Nat}{l:List Obj}{o:Obj}{E:List (List Dt)}(hz:Z id)(hm:m[id]? =some (.row 9 (cm p Q 0 l)))(hzq:Z Q)(hq:m[Q]? =some (.row 2 (aa E)))(hp:l[p]? =some o):
  cV m Z pp (.row id 9 0 none) (cX (l.set p {o with ag:=E})):=by
 have fb:=(Mp.1 hp).1;have key:∀(i:Nat)cs es,(cm p Q 0 l)[i]? =some cs->((l.set p {o with ag:=E}).map Obj.enc)[i]? =some es->mN m Z (some id) cs es:=by
  intro i cs es h1 h2;rw[g9,acA]at h1;rw[Rn]at h2;by_cases h:p=i
  .subst h;rw[aal fb]at h2;rw[hp]at h1;cases h1;cases h2;simp only[mb,if_pos,Obj.enc];exact .cons (.ai _) (.cons (.ai _) (.cons (cV.db hzq hq 0 none) (.cons (.ai _) (.cons (.ai _) (.cons (.ai _) (.cons (.ai _) (.cons (.ai _) (.cons (.ai _) .nil))))))))
  .rw[aap h]at h2;cases hx:l[i]? with
   |none=>rw[hx]at h1;cases h1
   |some x=>
    rw[hx]at h1 h2;cases h1;cases h2;have h3:¬i=p:=λe=>h e.symm
    simp only[mb,if_neg h3,Obj.enc];exact .cons (.ai _) (.cons (.ai _) (.cons (.ai _) (.cons (.ai _) (.cons (.ai _) (.cons (.ai _) (.cons (.ai _) (.cons (.ai _) (.cons (.ai _) .nil))))))))
 exact cV.row id 9 0 none _ _ hz hm (by rw[gZ,P2,abn]) (λi cs es h1 h2=>(key i cs es h1 h2).len) (λi cs es j c d h1 h2 h3 h4=>(key i cs es h1 h2).get j c d h3 h4)
theorem MA(S:List (List Dt))(e:List Dt)(i:Nat)(hi:i<=S.length)(hl:S.length<=4194304){m:Mem}{K:CV->Mem->Prop}(a b:Nat)(CO:iv [a,b]=true)(ay:eP m.length [a,b]=true)(ha:dp m a=some (.row 2 (aa S)))(hb:dp m b=some (.row 2 (aa [e])))(h:K (.rv (.one (.row m.length 2 0 none))) (dA m [a,b] [.aE,.aE,.row 2 (aa (S.take i++e::S.drop i))])):aq prog 150 [.rv (.one (.row a 2 0 none)),am .i64 (i:Nat),.rv (.one (.row b 2 0 none))] m K:=by
 by_cases qx:i<S.length
 .refine bi [a,b] m.length rfl rfl CO ay (args0:=[.rv (.one (.row 0 2 0 none)),am .i64 (i:Nat),.rv (.one (.row 1 2 0 none))]) rfl (m0:=[.row 2 (aa S),.row 2 (aa [e])]) (λi b' hi=>?_) (Mz S e i qx hl) (λr1 m1 hr=>?_)
  .match i,hi with
   |0,hi=>cases hi;exact .inr ⟨λh=>h,_,by rw[aX]at ha;exact ha,.bg rfl⟩
   |1,hi=>cases hi;exact .inr ⟨λh=>h,_,by rw[aX]at hb;exact hb,.bg rfl⟩
   |n+2,hi=>simp at hi
  .obtain⟨rfl,rfl⟩:=hr;refine⟨aG,?_⟩;show K (.rv (.one (.row (m.length+(2-2)) 2 0 none))) (dA m [a,b] [.aE,.aE,.row 2 ((aa (S.take i++e::S.drop i)).map (λcs=>cs.map (CC.aO (sg [a,b] m.length))))])
   rw[jm];exact h
 .have:i=S.length:=om;subst this;refine XV S e hl a b CO ay ha hb ?_;rw[abo,List.drop_length]at h;exact h
structure zq(l:List Obj):Prop where
 pZ:m8 l
 en:∀o,o∈l->∃es:List NE,o.ag=es.map bT/\Hf es/\es.length<=4194304/\∀e,e∈es->0<=e.2/\e.2<(l.length:Int)
def Qo(R:List Obj×Int)(r:CV)(m:Mem):Prop:=∃r' m',View 0 ⟨[r],m⟩ ⟨[r'],m'⟩/\r'= .bI [oz R.1,cR R.2]/\m'=[]
theorem iA{R:List Obj×Int}{m:Mem}(e:Int)(h:R=([],e)):Qo R (.bI [.one .bv,cR e]) m:=by subst h;refine⟨_,_,View.of m.length [] [] rfl rfl rfl rfl rfl rfl (.put (abR (.one (.dO (.bv 9))) (.one (.aO (.ai _)))) .nil) (.nil _),rfl,rfl⟩
theorem ui{l:List Obj}{n p:Nat}(hn:n<l.length)(hp:p<l.length){name:ByteArray}{E:List (List Dt)}(hE:E=(gw (name,(p:Int)) (l[n].ag.map kN)).map bT){q:Obj}(hq:q={l[p]with ak:=IntKind.i64.wrap (l[p].ak+1),up:=if l[p].ah=2 then(n:Int)else l[p].up}):
  ∃o2,(l.set p q)[n]? =some o2/\(l.set p q).set n {o2 with ag:=E}=iP l n p name:=by
 subst hE;unfold iP;rw[xm hn];simp only[];by_cases h:p=n
 .subst h;rw[aal hn,aal hn];refine⟨_,rfl,?_⟩;simp only[ad5];subst hq;rfl
 .rw[aap h,xm hn,aap (λe=>h e.symm),xm hp]
  refine⟨_,rfl,?_⟩;simp only[];rw[List.set_comm _ _ h,<-hq]
theorem Fb(l:List Obj)(hs:zq l)(dir obj:Int)(name:ByteArray)(b:Bool)(hN:∀{m:Mem}{K:CV->Mem->Prop},K (ar b) m->aq prog 116 [ei name] m K):
  body prog c122 [cQ l,am .i64 dir,ei name,am .i64 obj] [] (Qo (cn b l dir name obj)):=by
 have hE:∀R,R=cn b l dir name obj->body prog c122 [cQ l,am .i64 dir,ei name,am .i64 obj] [] (Qo R)->body prog c122 [cQ l,am .i64 dir,ei name,am .i64 obj] [] (Qo (cn b l dir name obj)):=λR h h2=>h▸h2
 refine an (λh1=>?_) (λh1=>?_)
 .exact iA 6 (by unfold cn;rw[zm h1];rfl)
 obtain⟨n,rfl⟩:∃n:Nat,dir=n:=⟨dir.toNat,by have h1:¬dir<0:=h1;omega⟩
 refine an (λh2=>?_) (λh2=>?_)
 .have h2:(n:Int)>=((l.map Obj.enc).length:Int):=h2;rw[P2]at h2;exact iA 6 (by unfold cn;rw[zn h2];rfl)
 have h2:¬(n:Int)>=((l.map Obj.enc).length:Int):=h2;rw[P2]at h2;have hn:n<l.length:=om;have Sc:=jU hn;refine af Sc ?_;refine bc (λh3=>?_) (λh3=>?_)
 .exact iA 6 (by unfold cn;rw[zo hn h3];rfl)
 have h3:l[n].ah≠0:=h3;have d1:=zp hn h3;refine an (λh4=>?_) (λh4=>?_)
 .exact iA 6 (by unfold cn;rw[d1,zm h4];rfl)
 obtain⟨p,rfl⟩:∃p:Nat,obj=p:=⟨obj.toNat,by have h4:¬obj<0:=h4;omega⟩
 refine an (λh5=>?_) (λh5=>?_)
 .have h5:(p:Int)>=((l.map Obj.enc).length:Int):=h5;rw[P2]at h5;exact iA 6 (by unfold cn;rw[d1,zn h5];rfl)
 have h5:¬(p:Int)>=((l.map Obj.enc).length:Int):=h5;rw[P2]at h5;have hp:p<l.length:=om;have hgp:=jU hp;refine af hgp ?_;refine bc (λh6=>?_) (λh6=>?_)
 .exact iA 6 (by unfold cn;rw[d1,zo hp h6];rfl)
 have h6:l[p].ah≠0:=h6;have d2:=zp hp h6;have hR:cn b l n name p=wP b l[n] (iP l n p name) name:=by unfold cn;rw[if_pos d1,if_pos d2,aam,aam,xm hn]
 rw[hR];unfold wP;refine af Sc ?_;refine bO (λh7=>?_) (λh7=>?_)
 .exact iA 11 (if_pos h7)
 have h7:l[n].ah=2:=by simpa using h7
 rw[if_neg (by rw[h7];simp)]
 refine af Sc ?_;refine bc (λh8=>?_) (λh8=>?_)
 .exact iA 6 (if_pos h8)
 have h8:l[n].ak≠0:=h8;rw[if_neg h8];refine hN ?_;cases b with
 |false=>exact iA 7 (if_pos rfl)
 |true=>
 rw[if_neg aG];obtain⟨es,he,xh,TM,dQ⟩:=hs.en _ (aaP hn);have V9:l[n].ag.map kN=es:=by rw[he,iI]
 refine E6 l n hn h7 es he om name ?_;have hfw:zi l es n name=fq es name:=BE xh name;rw[hfw,V9];refine an (λh9=>?_) (λh9=>?_)
 .exact iA 7 (if_pos h9)
 rw[if_neg h9];refine af Sc ?_;refine an (λSq=>?_) (λSq=>?_)
 .exact iA 15 (if_pos (by have Sq:(l[n].ag.length:Int)>=8:=Sq;omega))
 have Sq:¬(l[n].ag.length:Int)>=8:=Sq;rw[if_neg om];have agr:CY es name=false:=by
  have h9:¬fq es name>=0:=h9;rw[<-hfw]at h9;cases hb:CY es name with
  |false=>rfl
  |true=>
   exfalso;apply h9;unfold zi;rw[if_pos hb];unfold CY at hb;cases hg:es[sL es name]? with
   |none=>rw[hg]at hb;cases hb
   |some e=>exact(dQ e (Wm hg)).1
 have pX:∀Q,dp (cm n Q 0 l) n=some (dJ l[n] (.row Q 2 0 none) l[n].ak l[n].up):=λQ=>by rw[aX,g9,xm hn,acA,aaS,mb,if_pos rfl]
 have heb:C6 l n l.length= .row 2 (aa (es.map dy)):=by
  unfold C6;rw[show Nat.blt n l.length=true by simpa using hn]
  show Bk.row 2 (aa (match l[n]? with|some o=>o.ag|none=>[]))=_
  rw[xm hn];show Bk.row 2 (aa l[n].ag)=_;rw[he];rfl
 have abU:∀Q,lenOf (cm n Q 0 l).length 0 none=l.length:=λQ=>gZ n Q l 0
 have m9:∀Q(k:Nat),k<l.length->dW (k:Nat) (lenOf (cm n Q 0 l).length 0 none)=some k:=λQ k hk=>bL (by rw[abU];exact hk)
 refine C7 l hs.pZ n ?_;rw[heb];refine af (m9 1 n hn) ?_;refine af (pX 1) ?_;refine XH es om name 149 (λe m K h=>XQ e name h) (id:=1) rfl ?_
 refine af (m9 1 n hn) ?_;refine af (pX 1) ?_;have OT:sL es name<=es.length:=(qT xh name es.length 0 es.length om om om (λk e hk=>absurd hk (abq k)) (λk e hk he=>by have:=(Mp.1 he).1;omega)).1
 refine MA (es.map dy) (dy (name,(p:Int))) (sL es name) (by rw[P2];exact OT) (by rw[P2];exact TM) 1 2 rfl rfl rfl rfl ?_
 refine af (m9 1 n hn) ?_;refine af (pX 1) ?_;have p6:aZ (cm n 1 0 l) n (dJ l[n] (.row 3 2 0 none) l[n].ak l[n].up)=cm n 3 0 l:=by have:=HZ (p:=n) (Q:=1) (Q':=3) (xm hn);rw[<-this,mb,if_pos rfl]
 have MB:(es.map dy).take (sL es name)++dy (name,(p:Int))::(es.map dy).drop (sL es name)=(gw (name,(p:Int)) (l[n].ag.map kN)).map bT:=by rw[V9,XU xh agr,abT,ac6,adQ,aeh];rfl
 have kT:∀L2:List Obj,L2=iP l n p name->aw prog 0 af9 (oi prog c122.mr (Qo (iP l n p name,0))) ⟨jD 128 [(10,cQ L2)],[]⟩:=λL2 h=>by subst h;exact⟨_,_,View.o 0 [] [] (.eq rfl .nil) (.nil _),rfl,rfl⟩
 by_cases TN:p=n
 .have hrp:dp (cm n 3 0 l) p=some (dJ l[p] (.row 3 2 0 none) l[p].ak l[p].up):=by rw[aX,g9,xm hp,acA,aaS,mb,if_pos TN]
  have qF:aZ (aZ (cm n 1 0 l) n (dJ l[n] (.row 3 2 0 none) l[n].ak l[n].up)) p (dJ l[p] (.row 3 2 0 none) (IntKind.i64.wrap (l[p].ak+1)) l[p].up)=cm n 3 0 (l.set p {l[p]with ak:=IntKind.i64.wrap (l[p].ak+1)}):=by
   rw[p6];have:=rC (p:=n) (Q:=3) (o:={l[p]with ak:=IntKind.i64.wrap (l[p].ak+1)}) hp
   rw[<-this,mb,if_pos TN]
  have fh:∀l2:List Obj,l2.length=l.length->dW (p:Nat) (lenOf (cm n 3 0 l2).length 0 none)=some p:=λl2 h=>bL (by rw[show lenOf (cm n 3 0 l2).length 0 none=l2.length from gZ n 3 l2 0,h];exact hp)
  have wQ:dp (aZ (aZ (cm n 1 0 l) n (dJ l[n] (.row 3 2 0 none) l[n].ak l[n].up)) p (dJ l[p] (.row 3 2 0 none) (IntKind.i64.wrap (l[p].ak+1)) l[p].up)) p=some (dJ l[p] (.row 3 2 0 none) (IntKind.i64.wrap (l[p].ak+1)) l[p].up):=by
   rw[br,aX,aal (by rw[p6,gZ];exact hp)]
  refine af (by rw[p6];exact fh l rfl:dW (p:Nat) (lenOf (aZ (cm n 1 0 l) n (dJ l[n] (.row 3 2 0 none) l[n].ak l[n].up)).length 0 none)=some p) ?_
  refine af (by rw[p6];exact hrp:dp (aZ (cm n 1 0 l) n (dJ l[n] (.row 3 2 0 none) l[n].ak l[n].up)) p=some (dJ l[p] (.row 3 2 0 none) l[p].ak l[p].up)) ?_
  refine af (by rw[p6];exact fh l rfl:dW (p:Nat) (lenOf (aZ (cm n 1 0 l) n (dJ l[n] (.row 3 2 0 none) l[n].ak l[n].up)).length 0 none)=some p) ?_
  refine af (by rw[p6];exact hrp:dp (aZ (cm n 1 0 l) n (dJ l[n] (.row 3 2 0 none) l[n].ak l[n].up)) p=some (dJ l[p] (.row 3 2 0 none) l[p].ak l[p].up)) ?_
  refine af (by rw[qF];exact fh _ (abn ..):dW (p:Nat) (lenOf (aZ (aZ (cm n 1 0 l) n (dJ l[n] (.row 3 2 0 none) l[n].ak l[n].up)) p (dJ l[p] (.row 3 2 0 none) (IntKind.i64.wrap (l[p].ak+1)) l[p].up)).length 0 none)=some p) ?_
  refine af wQ ?_;refine bc (λhk=>?_) (λhk=>?_)
  .have hk:l[p].ah=2:=hk;have Qp:aZ (aZ (aZ (cm n 1 0 l) n (dJ l[n] (.row 3 2 0 none) l[n].ak l[n].up)) p (dJ l[p] (.row 3 2 0 none) (IntKind.i64.wrap (l[p].ak+1)) l[p].up)) p (dJ l[p] (.row 3 2 0 none) (IntKind.i64.wrap (l[p].ak+1)) (n:Nat))=cm n 3 0 (l.set p {l[p]with ak:=IntKind.i64.wrap (l[p].ak+1),up:=(n:Int)}):=by
    rw[qF];have:=rC (p:=n) (Q:=3) (l:=l.set p {l[p]with ak:=IntKind.i64.wrap (l[p].ak+1)}) (k:=p) (o:={l[p]with ak:=IntKind.i64.wrap (l[p].ak+1),up:=(n:Int)}) (by rw[abn];exact hp)
    rw[ad5]at this;rw[<-this,mb,if_pos TN]
   refine af (by rw[qF];exact fh _ (abn ..):dW (p:Nat) (lenOf (aZ (aZ (cm n 1 0 l) n (dJ l[n] (.row 3 2 0 none) l[n].ak l[n].up)) p (dJ l[p] (.row 3 2 0 none) (IntKind.i64.wrap (l[p].ak+1)) l[p].up)).length 0 none)=some p) ?_
   refine af wQ ?_;obtain⟨o2,pH,fa⟩:=ui (name:=name) hn hp MB (q:={l[p]with ak:=IntKind.i64.wrap (l[p].ak+1),up:=(n:Int)}) (by rw[if_pos hk])
   refine⟨_,View.o 4 [] [0,3] ?_ (.nil _),kT _ fa⟩
   iterate 10 refine .aL ?_
   refine .put (.rv (.one (.dO (p:=none) (Ki (Z:=λk=>bh [0,3] k=true) rfl (by show some (Bk.row 9 _)=some (Bk.row 9 _);congr 1;exact congrArg _ Qp) rfl rfl pH)))) ?_
   repeat(first|exact .nil|refine .aL ?_)
  .have hk:l[p].ah≠2:=hk;obtain⟨o2,pH,fa⟩:=ui (name:=name) hn hp MB (q:={l[p]with ak:=IntKind.i64.wrap (l[p].ak+1)}) (by rw[if_neg hk])
   refine⟨_,View.o 4 [] [0,3] ?_ (.nil _),kT _ fa⟩
   iterate 10 refine .aL ?_
   refine .put (.rv (.one (.dO (p:=none) (Ki (Z:=λk=>bh [0,3] k=true) rfl (by show some (Bk.row 9 _)=some (Bk.row 9 _);congr 1;exact congrArg _ qF) rfl rfl pH)))) ?_
   repeat(first|exact .nil|refine .aL ?_)
 .have hrp:dp (cm n 3 0 l) p=some (dJ l[p] (.ai (.sl 2 l[p].ag)) l[p].ak l[p].up):=by rw[aX,g9,xm hp,acA,aaS,mb,if_neg TN]
  have qF:aZ (aZ (cm n 1 0 l) n (dJ l[n] (.row 3 2 0 none) l[n].ak l[n].up)) p (dJ l[p] (.ai (.sl 2 l[p].ag)) (IntKind.i64.wrap (l[p].ak+1)) l[p].up)=cm n 3 0 (l.set p {l[p]with ak:=IntKind.i64.wrap (l[p].ak+1)}):=by
   rw[p6];have:=rC (p:=n) (Q:=3) (o:={l[p]with ak:=IntKind.i64.wrap (l[p].ak+1)}) hp
   rw[<-this,mb,if_neg TN]
  have fh:∀l2:List Obj,l2.length=l.length->dW (p:Nat) (lenOf (cm n 3 0 l2).length 0 none)=some p:=λl2 h=>bL (by rw[show lenOf (cm n 3 0 l2).length 0 none=l2.length from gZ n 3 l2 0,h];exact hp)
  have wQ:dp (aZ (aZ (cm n 1 0 l) n (dJ l[n] (.row 3 2 0 none) l[n].ak l[n].up)) p (dJ l[p] (.ai (.sl 2 l[p].ag)) (IntKind.i64.wrap (l[p].ak+1)) l[p].up)) p=some (dJ l[p] (.ai (.sl 2 l[p].ag)) (IntKind.i64.wrap (l[p].ak+1)) l[p].up):=by
   rw[br,aX,aal (by rw[p6,gZ];exact hp)]
  refine af (by rw[p6];exact fh l rfl:dW (p:Nat) (lenOf (aZ (cm n 1 0 l) n (dJ l[n] (.row 3 2 0 none) l[n].ak l[n].up)).length 0 none)=some p) ?_
  refine af (by rw[p6];exact hrp:dp (aZ (cm n 1 0 l) n (dJ l[n] (.row 3 2 0 none) l[n].ak l[n].up)) p=some (dJ l[p] (.ai (.sl 2 l[p].ag)) l[p].ak l[p].up)) ?_
  refine af (by rw[p6];exact fh l rfl:dW (p:Nat) (lenOf (aZ (cm n 1 0 l) n (dJ l[n] (.row 3 2 0 none) l[n].ak l[n].up)).length 0 none)=some p) ?_
  refine af (by rw[p6];exact hrp:dp (aZ (cm n 1 0 l) n (dJ l[n] (.row 3 2 0 none) l[n].ak l[n].up)) p=some (dJ l[p] (.ai (.sl 2 l[p].ag)) l[p].ak l[p].up)) ?_
  refine af (by rw[qF];exact fh _ (abn ..):dW (p:Nat) (lenOf (aZ (aZ (cm n 1 0 l) n (dJ l[n] (.row 3 2 0 none) l[n].ak l[n].up)) p (dJ l[p] (.ai (.sl 2 l[p].ag)) (IntKind.i64.wrap (l[p].ak+1)) l[p].up)).length 0 none)=some p) ?_
  refine af wQ ?_;refine bc (λhk=>?_) (λhk=>?_)
  .have hk:l[p].ah=2:=hk;have Qp:aZ (aZ (aZ (cm n 1 0 l) n (dJ l[n] (.row 3 2 0 none) l[n].ak l[n].up)) p (dJ l[p] (.ai (.sl 2 l[p].ag)) (IntKind.i64.wrap (l[p].ak+1)) l[p].up)) p (dJ l[p] (.ai (.sl 2 l[p].ag)) (IntKind.i64.wrap (l[p].ak+1)) (n:Nat))=cm n 3 0 (l.set p {l[p]with ak:=IntKind.i64.wrap (l[p].ak+1),up:=(n:Int)}):=by
    rw[qF];have:=rC (p:=n) (Q:=3) (l:=l.set p {l[p]with ak:=IntKind.i64.wrap (l[p].ak+1)}) (k:=p) (o:={l[p]with ak:=IntKind.i64.wrap (l[p].ak+1),up:=(n:Int)}) (by rw[abn];exact hp)
    rw[ad5]at this;rw[<-this,mb,if_neg TN]
   refine af (by rw[qF];exact fh _ (abn ..):dW (p:Nat) (lenOf (aZ (aZ (cm n 1 0 l) n (dJ l[n] (.row 3 2 0 none) l[n].ak l[n].up)) p (dJ l[p] (.ai (.sl 2 l[p].ag)) (IntKind.i64.wrap (l[p].ak+1)) l[p].up)).length 0 none)=some p) ?_
   refine af wQ ?_;obtain⟨o2,pH,fa⟩:=ui (name:=name) hn hp MB (q:={l[p]with ak:=IntKind.i64.wrap (l[p].ak+1),up:=(n:Int)}) (by rw[if_pos hk])
   refine⟨_,View.o 4 [] [0,3] ?_ (.nil _),kT _ fa⟩
   iterate 10 refine .aL ?_
   refine .put (.rv (.one (.dO (p:=none) (Ki (Z:=λk=>bh [0,3] k=true) rfl (by show some (Bk.row 9 _)=some (Bk.row 9 _);congr 1;exact congrArg _ Qp) rfl rfl pH)))) ?_
   repeat(first|exact .nil|refine .aL ?_)
  .have hk:l[p].ah≠2:=hk;obtain⟨o2,pH,fa⟩:=ui (name:=name) hn hp MB (q:={l[p]with ak:=IntKind.i64.wrap (l[p].ak+1)}) (by rw[if_neg hk])
   refine⟨_,View.o 4 [] [0,3] ?_ (.nil _),kT _ fa⟩
   iterate 10 refine .aL ?_
   refine .put (.rv (.one (.dO (p:=none) (Ki (Z:=λk=>bh [0,3] k=true) rfl (by show some (Bk.row 9 _)=some (Bk.row 9 _);congr 1;exact congrArg _ qF) rfl rfl pH)))) ?_
   repeat(first|exact .nil|refine .aL ?_)
theorem MC(l:List Obj)(hs:zq l)(dir obj:Int)(name:ByteArray)(b:Bool)(hN:∀{m:Mem}{K:CV->Mem->Prop},K (ar b) m->aq prog 116 [ei name] m K){m:Mem}{K:CV->Mem->Prop}(h:K (.bI [oz (cn b l dir name obj).1,cR (cn b l dir name obj).2]) m):aq prog 122 [cQ l,am .i64 dir,ei name,am .i64 obj] m K:=by
 refine aT (K0:=λr m=>r= .bI [oz (cn b l dir name obj).1,cR (cn b l dir name obj).2]/\m=[]) (bP (cN func122 l122 (Fb l hs dir obj name b hN)) λr m1⟨r',m',hv,h1,h2⟩=>⟨r',m',hv,h1,h2⟩) (by simp[cQ,am,ei,CV.cY,CC.cY]) λr m1 hr=>?_
 obtain⟨rfl,rfl⟩:=hr;exact⟨_,cM.self rfl,h⟩
def c77:LF:=Cq prog f77 [[9]] []
def c119:LF:=Cq prog f119 [] []
def c120:LF:=Cq prog f120 [] []
def c147:LF:=Cq prog f147 [] []
theorem l120:bA prog f120=some c120:=by kernel_rfl
theorem l147:bA prog f147=some c147:=by kernel_rfl
theorem l119:bA prog f119=some c119:=by kernel_rfl
theorem l77:bA prog f77=some c77.er:=by kernel_rfl
def G88:LC:=unW (oJ (oJ (oJ (oJ (oJ (oJ (oJ (oJ (oJ c77.code)))))))))
def Qq(name:ByteArray):Bk:= .var [.ai (.val (.string name))]
theorem Fc(e:NE)(name:ByteArray):body prog c120 [y8 e,.rv (.one (.ptr 0 0))] [.var ([Dt.val (.string name)].map .ai)] (λr m=>r=ar (e.1.toList==name.toList)/\∃ex,m= .var ([Dt.val (.string name)].map .ai)::ex):=by exact⟨rfl,_,rfl⟩
theorem Qr(e:NE)(name:ByteArray)(K:CV->Mem->Prop)(h:K (ar (e.1.toList==name.toList)) [.var ([Dt.val (.string name)].map .ai)]):aq prog 120 [y8 e,.rv (.one (.ptr 0 0))] [.var ([Dt.val (.string name)].map .ai)] K:=
 fX rfl (aR func120 l120 (Fc e name)) h
theorem H0{es:List NE}{k:Nat}(h:k<es.length):dp (aa (es.map dy)) k=some [.ai (.val (.string es[k].1)),.ai (.val (.int .i64 es[k].2))]:=by rw[aX];simp[aa,h,dy]
theorem MD(es:List NE):lenOf (aa (es.map dy)).length 0 none=es.length:=by show(aa (es.map dy)).length=_;simp[aa]
theorem Fd(es:List NE)(hl:es.length<=4194304)(name:ByteArray)(j:Nat)(hj:j<es.length)(hjn:es[j].1.toList=name.toList)(hb:∀(i:Nat)e,i<j->es[i]? =some e->e.1.toList≠name.toList):
  body prog c147 [.rv (.one (.row 0 2 0 none)),.rv (.one (.fn 120 [1]))] [.row 2 (aa (es.map dy)),Qq name] (λr m=>r=am .i64 (j:Nat)/\m=[.row 2 (aa (es.map dy)),Qq name]):=by
 refine ax (λk=>k<=j) [0,1] (λk=>[(7,am .i64 (es.length:Nat)),(8,am .i64 (k:Nat))]) (λ_=>[.row 2 (aa (es.map dy)),Qq name]) (λk=>j-k) 0 (aad _) ?_ (λk hk=>?_)
 .refine View.o 2 [0,1] [] ?_ ?_
  .repeat(first|exact .nil|refine .aL ?_|refine .eq rfl ?_|refine .put (.aO (by rw[MD];rfl)) ?_)
  .exact .pr rfl rfl rfl (.pt rfl rfl (.lR (ds:=[.val (.string name)]) rfl) (.nil _))
 have hk:k<=j:=hk;have ef:k<es.length:=om;refine bS (decide_eq_true (by show(k:Int)<(es.length:Int);omega)) ?_
 refine af (bL (by rw[MD];exact ef):dW (k:Nat) (lenOf (aa (es.map dy)).length 0 none)=some k) ?_
 refine af (H0 ef) ?_;refine gN (args0:=[y8 es[k],.rv (.one (.ptr 0 0))]) (cs:=[.val (.string name)]) 1 rfl rfl (r0:=ar (es[k].1.toList==name.toList)) rfl (λK hK=>Qr es[k] name K hK) ?_
 refine aC (λh=>?_) (λh=>?_)
 .have h:es[k].1.toList=name.toList:=by simpa using h
  have:k=j:=by
   rcases aaD k j with h2|h2
   .exact absurd h (hb k _ h2 (xm ef))
   .omega
  subst this;exact⟨rfl,rfl⟩
 .have gj:k≠j:=λe=>by subst e;rw[hjn]at h;simp at h
  refine⟨k+1,(by show k+1<=j;omega),(show j-(k+1)<j-k by omega),View.o2 2 [0,1] [] ?_⟩
  .exact .pr rfl rfl rfl (.pt rfl rfl (.lR (ds:=[.val (.string name)]) rfl) (.nil _))
structure StD where
 t:Nat
 y:NE
def mR(a b:List NE)(t:Nat)(y:NE):List NE:=a++b.take t++y::b.drop t
theorem Qs{a b:List NE}{t:Nat}(h:t<=b.length)(y:NE):(mR a b t y).length=a.length+b.length+1:=by simp[mR];omega
theorem MF{a b:List NE}{t:Nat}(h:t<b.length)(y:NE):(mR a b t y).set (a.length+t) b[t]=mR a b (t+1) b[t]/\(mR a b t y)[a.length+1+t]? =some b[t]:=by
 have h1:(a++b.take t).length=a.length+t:=by simp;omega
 have hd:b.drop t=b[t]::b.drop (t+1):=adV h;constructor
 .unfold mR;rw[adT _ _ om,h1,aea,List.set_cons_zero,List.take_succ_eq_append_getElem h,hd];simp only[adN,List.singleton_append]
 .unfold mR;rw[aaO om,h1,show a.length+1+t-(a.length+t)=1 by omega,hd]
  rfl
def TO:NE:=(⟨#[]⟩,0)
theorem MG(a b:List NE)(x:NE)(hl:a.length+b.length<=4194303)(name:ByteArray)(hx:x.1.toList=name.toList)(ha:∀e,e∈a->e.1.toList≠name.toList)(hb:∀e,e∈b->e.1.toList≠name.toList):
  body prog c119 [.rv (.one (.row 0 2 0 none)),.rv (.one (.fn 120 [1]))] [.row 2 (aa ((a++x::b).map dy)),Qq name]
  (λr m=>r= .rv (.one (.row 0 2 0 (some (a.length+b.length))))/\m=[.row 2 (aa ((a++b++ [TO]).map dy)),Qq name]):=by
 have hlen:(a++x::b).length=a.length+b.length+1:=by simp;omega
 refine(aR func147 l147 (Fd (a++x::b) om name a.length om (by simp[hx]) (λi e hi he=>?_))).mono λr m⟨hr,hm⟩=>?_
 .rw[aaM hi]at he;exact ha e (Wm he)
 subst hr hm;refine ax (λs:StD=>s.t<=b.length) [0,1] (λs=>[(5,am .i64 ((a.length+s.t:Nat):Int)),(6,am .i64 ((a.length+1+s.t:Nat):Int))]) (λs=>[.row 2 (aa ((mR a b s.t s.y).map dy)),Qq name]) (λs=>b.length-s.t) ⟨0,x⟩ (aad _) ?_ (λs hs=>?_)
 .refine View.o 2 [0,1] [] ?_ ?_
  .repeat(first|exact .nil|refine .aL ?_|refine .eq rfl ?_|refine .put (.aO (bC om).symm) ?_)
  .exact .pt rfl rfl (.bg (by show aa _=aa _;simp[mR])) (.pt rfl rfl (.lR (ds:=[.val (.string name)]) rfl) (.nil _))
 obtain⟨t,y⟩:=s;have hs:t<=b.length:=hs;have lF:=Qs (a:=a) hs y;refine an (λh=>?_) (λh=>?_)
 .have h:((a.length+1+t:Nat):Int)<((lenOf (aa ((mR a b t y).map dy)).length 0 none:Nat):Int):=h;rw[MD,lF]at h;have ht:t<b.length:=om;obtain⟨n1,n2⟩:=MF (a:=a) ht y;have gH:a.length+1+t<(mR a b t y).length:=om;have oo:(mR a b t y)[a.length+1+t]=b[t]:=by rw[xm gH]at n2;exact adZ n2
  have hr:=H0 gH;rw[oo]at hr;refine af (bL (by rw[MD];exact gH):dW ((a.length+1+t:Nat):Int) (lenOf (aa ((mR a b t y).map dy)).length 0 none)=some (a.length+1+t)) ?_
  refine af hr ?_;have gj:=hb b[t] (aaP ht);generalize hbt:b[t]=v at n1 gj;refine gN (args0:=[y8 v,.rv (.one (.ptr 0 0))]) (cs:=[.val (.string name)]) 1 rfl rfl (r0:=ar (v.1.toList==name.toList)) rfl (λK hK=>Qr v name K hK) ?_
  refine bS (by simpa using gj) ?_
  refine af (bL (by rw[MD,lF];omega):dW ((a.length+t:Nat):Int) (lenOf (aa ((mR a b t y).map dy)).length 0 none)=some (a.length+t)) ?_
  refine af (H0 (by rw[lF];omega):dp (aa ((mR a b t y).map dy)) (a.length+t)=_) ?_
  have j9:aZ (aa ((mR a b t y).map dy)) (a.length+t) [.ai (.val (.string v.1)),.ai (.val (.int .i64 v.2))]=aa ((mR a b (t+1) v).map dy):=by rw[<-n1,br,acF];simp[aa,acF,dy]
  have e1:=bC (k:=a.length+t) om;have e2:=bC (k:=a.length+1+t) om;refine⟨⟨t+1,v⟩,ht,(show b.length-(t+1)<b.length-t by omega),View.o 3 [0,1] [] ?_ ?_⟩
  .repeat(first|exact .nil|refine .aL ?_|refine .put (.aO e1.symm) ?_|refine .put (.aO e2.symm) ?_|refine .eq rfl ?_)
  .exact .pt rfl rfl (.bg j9) (.pt rfl rfl (.lR (ds:=[.val (.string name)]) rfl) (.nil _))
 .have h:¬((a.length+1+t:Nat):Int)<((lenOf (aa ((mR a b t y).map dy)).length 0 none:Nat):Int):=h;rw[MD,lF]at h;have ht:t=b.length:=om;subst ht;have hXl:(aa ((mR a b b.length y).map dy)).length=a.length+b.length+1:=by rw[<-lF];simp[aa]
  have fa:dm (aa ((mR a b b.length y).map dy)) (a.length+b.length) [[.ai (.val (.string ⟨#[]⟩)),.ai (.val (.int .i64 0))]]=aa ((a++b++ [TO]).map dy):=by
   have h1:aa ((mR a b b.length y).map dy)=aa ((a++b).map dy)++ [[.ai (.val (.string y.1)),.ai (.val (.int .i64 y.2))]]:=by simp[mR,aa,dy]
   have h2:(aa ((a++b).map dy)).length=a.length+b.length:=by simp[aa]
   rw[h1,dm,List.take_left' h2,adY (by rw[acs,h2];simp)]
   simp[aa,dy,TO]
  generalize hX:aa ((mR a b b.length y).map dy)=X at hXl fa;have hLX:lenOf X.length 0 none=a.length+b.length+1:=hXl;refine bS (t:=(Nat.ble (a.length+b.length) (lenOf X.length 0 none)&&Nat.ble (lenOf X.length 0 none) (X.length-0))) (by rw[hLX,hXl];simp[ack]) ?_
  have Wa:dm X (a.length+b.length) (iu (lenOf X.length 0 none-(a.length+b.length)) [.ai (.val (.string ⟨#[]⟩)),.ai (.val (.int .i64 0))])=aa ((a++b++ [TO]).map dy):=by
   rw[hLX,show a.length+b.length+1-(a.length+b.length)=1 by omega]
   exact fa
  refine bS (t:=Nat.ble (lenOf X.length 0 none) X.length) (by rw[hLX,hXl];simp[ack]) ?_
  refine bS (t:=Nat.blt (a.length+b.length) (lenOf X.length 0 none)) (by rw[hLX,adw];omega) ?_
  refine bS (t:=(Nat.ble 0 (a.length+b.length)&&Nat.ble (a.length+b.length) ((dm X (a.length+b.length) (iu (lenOf X.length 0 none-(a.length+b.length)) [.ai (.val (.string ⟨#[]⟩)),.ai (.val (.int .i64 0))])).length-0))) (by rw[Wa];simp[aa,ack]) ?_
  exact⟨rfl,congrArg (λz=>[Bk.row 2 z,Qq name]) Wa⟩
theorem Kj(a b:List NE)(x:NE)(hl:a.length+b.length<=4194303)(name:ByteArray)(hx:x.1.toList=name.toList)(ha:∀e,e∈a->e.1.toList≠name.toList)(hb:∀e,e∈b->e.1.toList≠name.toList){m:Mem}{K:CV->Mem->Prop}(i j:Nat)(tw:iv [i,j]=true)(ay:eP m.length [i,j]=true)(hi:dp m i=some (.row 2 (aa ((a++x::b).map dy))))(hj:dp m j=some (Qq name))(h:K (.rv (.one (.row i 2 0 (some (a.length+b.length))))) (dA m [i,j] [.row 2 (aa ((a++b++ [TO]).map dy)),Qq name])):aq prog 119 [.rv (.one (.row i 2 0 none)),.rv (.one (.fn 120 [j]))] m K:=by
 refine bi [i,j] m.length rfl rfl tw ay (args0:=[.rv (.one (.row 0 2 0 none)),.rv (.one (.fn 120 [1]))]) rfl (m0:=[.row 2 (aa ((a++x::b).map dy)),Qq name]) (λk b' hk=>?_) (aR func119 l119 (MG a b x hl name hx ha hb)) (λr1 m1 hr=>?_)
 .match k,hk with
  |0,hk=>cases hk;exact .inr ⟨λh=>h,_,by rw[aX]at hi;exact hi,.bg rfl⟩
  |1,hk=>cases hk;exact .inr ⟨λh=>h,_,by rw[aX]at hj;exact hj,.lR (ds:=[.val (.string name)]) rfl⟩
  |n+2,hk=>simp at hk
 .obtain⟨rfl,rfl⟩:=hr;refine⟨aG,?_⟩;show K (.rv (.one (.row i 2 0 (some (a.length+b.length))))) (dA m [i,j] [.row 2 ((aa ((a++b++ [TO]).map dy)).map (λcs=>cs.map (CC.aO (sg [i,j] m.length)))),Qq name])
  rw[jm];exact h
def nX(p:Nat)(c:CC)(k:Nat)(o:Obj):List CC:= (dJ o (if k=p then c else .ai (.sl 2 o.ag)) o.ak o.up)
def cr(p:Nat)(c:CC)(l:List Obj):List (List CC):=(l.zipIdx.map λx=>nX p c x.2 x.1)
theorem gB(p:Nat)(c:CC)(l:List Obj)(i:Nat):(cr p c l)[i]? =(l[i]?).map (nX p c i):=by
 simp only[cr,Rn,List.getElem?_zipIdx,acA];cases l[i]? <;>rfl
theorem jw(p:Nat)(c:CC)(l:List Obj):(cr p c l).length=l.length:=by simp[cr]
theorem Kk(p Q:Nat)(l:List Obj):cm p Q 0 l=cr p (.row Q 2 0 none) l:=by apply acq;intro i;rw[g9,gB,acA];rfl
theorem jx{p:Nat}{c:CC}{l:List Obj}{k:Nat}{o:Obj}(hk:k<l.length):aZ (cr p c l) k (nX p c k o)=cr p c (l.set k o):=by
 rw[br];apply acq;intro i;rw[gB];by_cases h:k=i
 .subst h;rw[aal (by rw[jw];exact hk),aal hk]
  rfl
 .rw[aap h,aap h,gB]
theorem H2{p:Nat}{c c':CC}{l:List Obj}{o:Obj}(hp:l[p]? =some o):aZ (cr p c l) p (nX p c' p o)=cr p c' l:=by
 have fb:=(Mp.1 hp).1;rw[br];apply acq;intro i;rw[gB];by_cases h:p=i
 .subst h;rw[aal (by rw[jw];exact fb),hp]
  rfl
 .rw[aap h,gB];cases l[i]? with
  |none=>rfl
  |some x=>
   have h2:¬i=p:=λe=>h e.symm
   simp only[aaS,nX,if_neg h2]
theorem Ff{m:Mem}{Z:Nat->Prop}{pp:Option Nat}{id p:Nat}{c:CC}{l:List Obj}{o:Obj}{E:List (List Dt)}(hz:Z id)(hm:m[id]? =some (.row 9 (cr p c l)))(hq:cV m Z (some id) c (.sl 2 E))(hp:l[p]? =some o):
  cV m Z pp (.row id 9 0 none) (cX (l.set p {o with ag:=E})):=by
 have fb:=(Mp.1 hp).1;have key:∀(i:Nat)cs es,(cr p c l)[i]? =some cs->((l.set p {o with ag:=E}).map Obj.enc)[i]? =some es->mN m Z (some id) cs es:=by
  intro i cs es h1 h2;rw[gB]at h1;rw[Rn]at h2;by_cases h:p=i
  .subst h;rw[aal fb]at h2;rw[hp]at h1;cases h1;cases h2;simp only[nX,if_pos,Obj.enc];exact .cons (.ai _) (.cons (.ai _) (.cons hq (.cons (.ai _) (.cons (.ai _) (.cons (.ai _) (.cons (.ai _) (.cons (.ai _) (.cons (.ai _) .nil))))))))
  .rw[aap h]at h2;cases hx:l[i]? with
   |none=>rw[hx]at h1;cases h1
   |some x=>
    rw[hx]at h1 h2;cases h1;cases h2;have h3:¬i=p:=λe=>h e.symm
    simp only[nX,if_neg h3,Obj.enc];exact .cons (.ai _) (.cons (.ai _) (.cons (.ai _) (.cons (.ai _) (.cons (.ai _) (.cons (.ai _) (.cons (.ai _) (.cons (.ai _) (.cons (.ai _) .nil))))))))
 exact cV.row id 9 0 none _ _ hz hm (by rw[jw,P2,abn]) (λi cs es h1 h2=>(key i cs es h1 h2).len) (λi cs es j c d h1 h2 h3 h4=>(key i cs es h1 h2).get j c d h3 h4)
def kq(l:List Obj)(n k:Nat)(name:ByteArray):List Obj:=match l[n]? with
 |none=>l
 |some o=>match (l.set n {o with ag:=((o.ag.map kN).filter λe=>decide (e.1.toList≠name.toList)).map bT})[k]? with
  |none=>l
  |some q=>(l.set n {o with ag:=((o.ag.map kN).filter λe=>decide (e.1.toList≠name.toList)).map bT}).set k {q with ak:=IntKind.i64.wrap (q.ak-1),up:=if q.ah=2 then(k:Int)else q.up}
def wR(o:Obj)(l:List Obj)(n:Nat)(name:ByteArray):List Obj×Int×Int:=
 if o.ah≠2 then([],0,11)else if fq (o.ag.map kN) name<0 then([],0,6)else match l[(fq (o.ag.map kN) name).toNat]? with
  |none=>([],0,6)
  |some q=>if q.ah=2/\q.ag.length>0 then([],0,18)else(kq l n (fq (o.ag.map kN) name).toNat name,fq (o.ag.map kN) name,0)
def cO(l:List Obj)(dir:Int)(name:ByteArray):List Obj×Int×Int:=
 if mQ l dir 0=true then(match l[dir.toNat]? with
  |none=>([],0,6)
  |some o=>wR o l dir.toNat name)else([],0,6)
theorem lu{l:List Obj}{n k:Nat}(hn:n<l.length)(hk:k<l.length){name:ByteArray}{E:List (List Dt)}(hE:E=((l[n].ag.map kN).filter λe=>decide (e.1.toList≠name.toList)).map bT){q:Obj}(hq:q={l[k]with ak:=IntKind.i64.wrap (l[k].ak-1),up:=if l[k].ah=2 then(k:Int)else l[k].up}):
  ∃o2,(l.set k q)[n]? =some o2/\(l.set k q).set n {o2 with ag:=E}=kq l n k name:=by
 subst hE;unfold kq;rw[xm hn];simp only[];by_cases h:k=n
 .subst h;rw[aal hn,aal hn];refine⟨_,rfl,?_⟩;simp only[ad5];subst hq;rfl
 .rw[aap h,xm hn,aap (λe=>h e.symm),xm hk]
  refine⟨_,rfl,?_⟩;simp only[];rw[List.set_comm _ _ h,<-hq]
theorem MH{es:List NE}(hs:Hf es){name:ByteArray}(h:¬fq es name<0)(dQ:∀e,e∈es->0<=e.2):∃a x b,es=a++x::b/\x.1.toList=name.toList/\x.2=fq es name/\(∀e,e∈a->e.1.toList≠name.toList)/\(∀e,e∈b->e.1.toList≠name.toList)/\es.filter (λe=>decide (e.1.toList≠name.toList))=a++b:=by
 rcases iw es name with⟨x,hx,h1,h2⟩|⟨h2,_⟩
 .obtain⟨a,b,rfl⟩:=List.append_of_mem hx;have hu:∀y,y∈a++x::b->y.1.toList=name.toList->y=x:=λy hy he=>yK hs hy hx (he.trans h1.symm)
  have hp:=hs;unfold Hf at hp;rw[List.pairwise_append,ad7]at hp;have hna:∀e,e∈a->e.1.toList≠name.toList:=λe he h3=>by have:=hp.2.2 e he x aG;rw[CI,h3,<-h1,qG]at this;cases this
  have hnb:∀e,e∈b->e.1.toList≠name.toList:=λe he h3=>by have:=hp.2.1.1 e he;rw[CI,h3,<-h1,qG]at this;cases this
  refine⟨a,x,b,rfl,h1,h2.symm,hna,hnb,?_⟩;rw[adE,aef,if_neg (by simpa using h1),List.filter_eq_self.2 (λe he=>by simpa using hna e he),List.filter_eq_self.2 (λe he=>by simpa using hnb e he)]
 .rw[h2]at h;omega
def X4(R:List Obj×Int×Int)(r:CV)(m:Mem):Prop:=∃r' m',View 0 ⟨[r],m⟩ ⟨[r'],m'⟩/\r'= .bI [oz R.1,cR R.2.1,cR R.2.2]/\m'=[]
theorem oL{R:List Obj×Int×Int}{m:Mem}(e:Int)(h:R=([],0,e)):X4 R (.bI [.one .bv,cR 0,cR e]) m:=by subst h;exact⟨_,_,View.of m.length [] [] rfl rfl rfl rfl rfl rfl (.put (abS (.one (.dO (.bv 9))) (.one (.aO (.ai _))) (.one (.aO (.ai _)))) .nil) (.nil _),rfl,rfl⟩
theorem Da(l:List Obj)(hs:zq l)(dir:Int)(name:ByteArray):body prog c77 [cQ l,am .i64 dir,ei name] [] (X4 (cO l dir name)):=by
 refine an (λh1=>?_) (λh1=>?_)
 .exact oL 6 (by unfold cO;rw[zm h1];rfl)
 obtain⟨n,rfl⟩:∃n:Nat,dir=n:=⟨dir.toNat,by have h1:¬dir<0:=h1;omega⟩
 refine an (λh2=>?_) (λh2=>?_)
 .have h2:(n:Int)>=((l.map Obj.enc).length:Int):=h2;rw[P2]at h2;exact oL 6 (by unfold cO;rw[zn h2];rfl)
 have h2:¬(n:Int)>=((l.map Obj.enc).length:Int):=h2;rw[P2]at h2;have hn:n<l.length:=om;have Sc:=jU hn;refine af Sc ?_;refine bc (λh3=>?_) (λh3=>?_)
 .exact oL 6 (by unfold cO;rw[zo hn h3];rfl)
 have h3:l[n].ah≠0:=h3;have hR:cO l n name=wR l[n] l n name:=by unfold cO;rw[if_pos (zp hn h3),aam,xm hn]
 rw[hR];unfold wR;refine af Sc ?_;refine bO (λh7=>?_) (λh7=>?_)
 .exact oL 11 (if_pos h7)
 have h7:l[n].ah=2:=by simpa using h7
 rw[if_neg (by rw[h7];simp)]
 obtain⟨es,he,xh,TM,dQ⟩:=hs.en _ (aaP hn);have V9:l[n].ag.map kN=es:=by rw[he,iI]
 refine E6 l n hn h7 es he om name ?_;have hfw:zi l es n name=fq es name:=BE xh name;rw[hfw,V9];refine an (λh9=>?_) (λh9=>?_)
 .exact oL 6 (if_pos h9)
 have h9:¬fq es name<0:=h9;rw[if_neg h9];obtain⟨a,x,b,CO,hx,W9,ha,hb,ags⟩:=MH xh h9 λe he=>(dQ e he).1
 have hxr:=dQ x (by rw[CO];simp)
 obtain⟨k,hk⟩:∃k:Nat,fq es name=k:=⟨(fq es name).toNat,om⟩;have ef:k<l.length:=om;have XT:=jU ef;rw[hk,aam,xm ef];simp only[];have abW:a.length+b.length<=4194303:=by rw[CO]at TM;simp at TM;omega
 have pX:∀c,dp (cr n c l) n=some (dJ l[n] c l[n].ak l[n].up):=λc=>by rw[aX,gB,xm hn,aaS,nX,if_pos rfl]
 have heb:C6 l n l.length= .row 2 (aa ((a++x::b).map dy)):=by
  unfold C6;rw[show Nat.blt n l.length=true by simpa using hn]
  show Bk.row 2 (aa (match l[n]? with|some o=>o.ag|none=>[]))=_
  rw[xm hn];show Bk.row 2 (aa l[n].ag)=_;rw[he,CO];rfl
 have fh:∀(c:CC)(l2:List Obj)(j:Nat),l2.length=l.length->j<l.length->dW (j:Nat) (lenOf (cr n c l2).length 0 none)=some j:=λc l2 j h hj=>bL (by rw[show lenOf (cr n c l2).length 0 none=l2.length from jw n c l2,h];exact hj)
 have MB:((a++b).map dy)=((l[n].ag.map kN).filter λe=>decide (e.1.toList≠name.toList)).map bT:=by rw[V9,ags];rfl
 have kT:∀L2:List Obj,L2=kq l n k name->aw prog 0 G88 (oi prog c77.mr (X4 (kq l n k name,(k:Int),0))) ⟨jD 90 [(9,am .i64 (k:Nat)),(10,cQ L2)],[]⟩:=λL2 h=>by subst h;exact⟨_,_,View.o 0 [] [] (.eq rfl .nil) (.nil _),rfl,rfl⟩
 have p6:(aZ (cr n (.row 2 2 0 none) l) n (dJ l[n] (.row 2 2 0 (some (a.length+b.length))) l[n].ak l[n].up))=cr n (.row 2 2 0 (some (a.length+b.length))) l:=by have:=H2 (p:=n) (c:= .row 2 2 0 none) (c':= .row 2 2 0 (some (a.length+b.length))) (xm hn);rw[<-this,nX,if_pos rfl]
 have sy:bt ((a++b++ [TO]).map dy) 0 (some (a.length+b.length))=(a++b).map dy:=by show((a++b++ [TO]).map dy).take (a.length+b.length)=_;rw[abT,List.take_left' aG]
 have hq:∀m:Mem,m[2]? =some (.row 2 (aa ((a++b++ [TO]).map dy)))->cV m (λk=>bh [1,2] k=true) (some 1) (.row 2 2 0 (some (a.length+b.length))) (.sl 2 ((a++b).map dy)):=λm hm=>by
  have:=cV.db (Z:=λk=>bh [1,2] k=true) (p:=some 1) rfl hm 0 (some (a.length+b.length))
  rw[sy]at this;exact this
 refine af XT ?_;refine bc (λGe=>?_) (λGe=>?_)
 .refine af XT ?_;refine an (λmJ=>?_) (λmJ=>?_)
  .exact oL 18 (if_pos ⟨Ge,by have mJ:(l[k].ag.length:Int)>0:=mJ;omega⟩)
  .rw[if_neg (λh=>mJ (by show(l[k].ag.length:Int)>0;omega))]
   refine C7 l hs.pZ n ?_;rw[heb,Kk];refine af (fh (.row 2 2 0 none) l n rfl hn) ?_;refine af (pX (.row 2 2 0 none)) ?_;refine Kj a b x abW name hx ha hb 2 0 rfl rfl rfl rfl ?_;refine af (fh (.row 2 2 0 none) l n rfl hn) ?_;refine af (pX (.row 2 2 0 none)) ?_;by_cases Fg:k=n
   .have Qt:dp (cr n (.row 2 2 0 (some (a.length+b.length))) l) k=some (dJ l[k] (.row 2 2 0 (some (a.length+b.length))) l[k].ak l[k].up):=by rw[aX,gB,xm ef,aaS,nX,if_pos Fg]
    have qF:(aZ (aZ (cr n (.row 2 2 0 none) l) n (dJ l[n] (.row 2 2 0 (some (a.length+b.length))) l[n].ak l[n].up)) k (dJ l[k] (.row 2 2 0 (some (a.length+b.length))) (IntKind.i64.wrap (l[k].ak-1)) l[k].up))=cr n (.row 2 2 0 (some (a.length+b.length))) (l.set k {l[k]with ak:=(IntKind.i64.wrap (l[k].ak-1))}):=by
     rw[p6];have:=jx (p:=n) (c:= .row 2 2 0 (some (a.length+b.length))) (o:={l[k]with ak:=(IntKind.i64.wrap (l[k].ak-1))}) ef
     rw[<-this,nX,if_pos Fg]
    have wQ:dp (aZ (aZ (cr n (.row 2 2 0 none) l) n (dJ l[n] (.row 2 2 0 (some (a.length+b.length))) l[n].ak l[n].up)) k (dJ l[k] (.row 2 2 0 (some (a.length+b.length))) (IntKind.i64.wrap (l[k].ak-1)) l[k].up)) k=some (dJ l[k] (.row 2 2 0 (some (a.length+b.length))) (IntKind.i64.wrap (l[k].ak-1)) l[k].up):=by
     rw[br,aX,aal (by rw[p6,jw];exact ef)]
    refine af (by rw[p6];exact fh _ l k rfl ef:dW (k:Nat) (lenOf (aZ (cr n (.row 2 2 0 none) l) n (dJ l[n] (.row 2 2 0 (some (a.length+b.length))) l[n].ak l[n].up)).length 0 none)=some k) ?_
    refine af (by rw[p6];exact Qt:dp (aZ (cr n (.row 2 2 0 none) l) n (dJ l[n] (.row 2 2 0 (some (a.length+b.length))) l[n].ak l[n].up)) k=some (dJ l[k] (.row 2 2 0 (some (a.length+b.length))) l[k].ak l[k].up)) ?_
    refine af (by rw[p6];exact fh _ l k rfl ef:dW (k:Nat) (lenOf (aZ (cr n (.row 2 2 0 none) l) n (dJ l[n] (.row 2 2 0 (some (a.length+b.length))) l[n].ak l[n].up)).length 0 none)=some k) ?_
    refine af (by rw[p6];exact Qt:dp (aZ (cr n (.row 2 2 0 none) l) n (dJ l[n] (.row 2 2 0 (some (a.length+b.length))) l[n].ak l[n].up)) k=some (dJ l[k] (.row 2 2 0 (some (a.length+b.length))) l[k].ak l[k].up)) ?_
    refine af (by rw[qF];exact fh _ _ k (abn ..) ef:dW (k:Nat) (lenOf (aZ (aZ (cr n (.row 2 2 0 none) l) n (dJ l[n] (.row 2 2 0 (some (a.length+b.length))) l[n].ak l[n].up)) k (dJ l[k] (.row 2 2 0 (some (a.length+b.length))) (IntKind.i64.wrap (l[k].ak-1)) l[k].up)).length 0 none)=some k) ?_
    refine af wQ ?_;refine bc (λrK=>?_) (λrK=>?_)
    .have rK:l[k].ah=2:=rK;have Qp:(aZ (aZ (aZ (cr n (.row 2 2 0 none) l) n (dJ l[n] (.row 2 2 0 (some (a.length+b.length))) l[n].ak l[n].up)) k (dJ l[k] (.row 2 2 0 (some (a.length+b.length))) (IntKind.i64.wrap (l[k].ak-1)) l[k].up)) k (dJ l[k] (.row 2 2 0 (some (a.length+b.length))) (IntKind.i64.wrap (l[k].ak-1)) (k:Nat)))=cr n (.row 2 2 0 (some (a.length+b.length))) (l.set k {l[k]with ak:=(IntKind.i64.wrap (l[k].ak-1)),up:=(k:Int)}):=by
      rw[qF];have:=jx (p:=n) (c:= .row 2 2 0 (some (a.length+b.length))) (l:=l.set k {l[k]with ak:=(IntKind.i64.wrap (l[k].ak-1))}) (k:=k) (o:={l[k]with ak:=(IntKind.i64.wrap (l[k].ak-1)),up:=(k:Int)}) (by rw[abn];exact ef)
      rw[ad5]at this;rw[<-this,nX,if_pos Fg]
     refine af (by rw[qF];exact fh _ _ k (abn ..) ef:dW (k:Nat) (lenOf (aZ (aZ (cr n (.row 2 2 0 none) l) n (dJ l[n] (.row 2 2 0 (some (a.length+b.length))) l[n].ak l[n].up)) k (dJ l[k] (.row 2 2 0 (some (a.length+b.length))) (IntKind.i64.wrap (l[k].ak-1)) l[k].up)).length 0 none)=some k) ?_
     refine af wQ ?_;obtain⟨o2,pH,fa⟩:=lu (name:=name) hn ef MB (q:={l[k]with ak:=(IntKind.i64.wrap (l[k].ak-1)),up:=(k:Int)}) (by rw[if_pos rK])
     refine⟨_,View.o 3 [] [1,2] ?_ (.nil _),kT _ fa⟩
     iterate 9 refine .aL ?_
     refine .eq rfl ?_;refine .put (.rv (.one (.dO (p:=none) (Ff (Z:=λk=>bh [1,2] k=true) rfl (by show some (Bk.row 9 _)=some (Bk.row 9 _);congr 1;exact congrArg _ Qp) (hq _ rfl) pH)))) ?_
     repeat(first|exact .nil|refine .aL ?_)
    .have rK:l[k].ah≠2:=rK;obtain⟨o2,pH,fa⟩:=lu (name:=name) hn ef MB (q:={l[k]with ak:=(IntKind.i64.wrap (l[k].ak-1))}) (by rw[if_neg rK])
     refine⟨_,View.o 3 [] [1,2] ?_ (.nil _),kT _ fa⟩
     iterate 9 refine .aL ?_
     refine .eq rfl ?_;refine .put (.rv (.one (.dO (p:=none) (Ff (Z:=λk=>bh [1,2] k=true) rfl (by show some (Bk.row 9 _)=some (Bk.row 9 _);congr 1;exact congrArg _ qF) (hq _ rfl) pH)))) ?_
     repeat(first|exact .nil|refine .aL ?_)
   .have Qt:dp (cr n (.row 2 2 0 (some (a.length+b.length))) l) k=some (dJ l[k] (.ai (.sl 2 l[k].ag)) l[k].ak l[k].up):=by rw[aX,gB,xm ef,aaS,nX,if_neg Fg]
    have qF:(aZ (aZ (cr n (.row 2 2 0 none) l) n (dJ l[n] (.row 2 2 0 (some (a.length+b.length))) l[n].ak l[n].up)) k (dJ l[k] (.ai (.sl 2 l[k].ag)) (IntKind.i64.wrap (l[k].ak-1)) l[k].up))=cr n (.row 2 2 0 (some (a.length+b.length))) (l.set k {l[k]with ak:=(IntKind.i64.wrap (l[k].ak-1))}):=by
     rw[p6];have:=jx (p:=n) (c:= .row 2 2 0 (some (a.length+b.length))) (o:={l[k]with ak:=(IntKind.i64.wrap (l[k].ak-1))}) ef
     rw[<-this,nX,if_neg Fg]
    have wQ:dp (aZ (aZ (cr n (.row 2 2 0 none) l) n (dJ l[n] (.row 2 2 0 (some (a.length+b.length))) l[n].ak l[n].up)) k (dJ l[k] (.ai (.sl 2 l[k].ag)) (IntKind.i64.wrap (l[k].ak-1)) l[k].up)) k=some (dJ l[k] (.ai (.sl 2 l[k].ag)) (IntKind.i64.wrap (l[k].ak-1)) l[k].up):=by
     rw[br,aX,aal (by rw[p6,jw];exact ef)]
    refine af (by rw[p6];exact fh _ l k rfl ef:dW (k:Nat) (lenOf (aZ (cr n (.row 2 2 0 none) l) n (dJ l[n] (.row 2 2 0 (some (a.length+b.length))) l[n].ak l[n].up)).length 0 none)=some k) ?_
    refine af (by rw[p6];exact Qt:dp (aZ (cr n (.row 2 2 0 none) l) n (dJ l[n] (.row 2 2 0 (some (a.length+b.length))) l[n].ak l[n].up)) k=some (dJ l[k] (.ai (.sl 2 l[k].ag)) l[k].ak l[k].up)) ?_
    refine af (by rw[p6];exact fh _ l k rfl ef:dW (k:Nat) (lenOf (aZ (cr n (.row 2 2 0 none) l) n (dJ l[n] (.row 2 2 0 (some (a.length+b.length))) l[n].ak l[n].up)).length 0 none)=some k) ?_
    refine af (by rw[p6];exact Qt:dp (aZ (cr n (.row 2 2 0 none) l) n (dJ l[n] (.row 2 2 0 (some (a.length+b.length))) l[n].ak l[n].up)) k=some (dJ l[k] (.ai (.sl 2 l[k].ag)) l[k].ak l[k].up)) ?_
    refine af (by rw[qF];exact fh _ _ k (abn ..) ef:dW (k:Nat) (lenOf (aZ (aZ (cr n (.row 2 2 0 none) l) n (dJ l[n] (.row 2 2 0 (some (a.length+b.length))) l[n].ak l[n].up)) k (dJ l[k] (.ai (.sl 2 l[k].ag)) (IntKind.i64.wrap (l[k].ak-1)) l[k].up)).length 0 none)=some k) ?_
    refine af wQ ?_;refine bc (λrK=>?_) (λrK=>?_)
    .have rK:l[k].ah=2:=rK;have Qp:(aZ (aZ (aZ (cr n (.row 2 2 0 none) l) n (dJ l[n] (.row 2 2 0 (some (a.length+b.length))) l[n].ak l[n].up)) k (dJ l[k] (.ai (.sl 2 l[k].ag)) (IntKind.i64.wrap (l[k].ak-1)) l[k].up)) k (dJ l[k] (.ai (.sl 2 l[k].ag)) (IntKind.i64.wrap (l[k].ak-1)) (k:Nat)))=cr n (.row 2 2 0 (some (a.length+b.length))) (l.set k {l[k]with ak:=(IntKind.i64.wrap (l[k].ak-1)),up:=(k:Int)}):=by
      rw[qF];have:=jx (p:=n) (c:= .row 2 2 0 (some (a.length+b.length))) (l:=l.set k {l[k]with ak:=(IntKind.i64.wrap (l[k].ak-1))}) (k:=k) (o:={l[k]with ak:=(IntKind.i64.wrap (l[k].ak-1)),up:=(k:Int)}) (by rw[abn];exact ef)
      rw[ad5]at this;rw[<-this,nX,if_neg Fg]
     refine af (by rw[qF];exact fh _ _ k (abn ..) ef:dW (k:Nat) (lenOf (aZ (aZ (cr n (.row 2 2 0 none) l) n (dJ l[n] (.row 2 2 0 (some (a.length+b.length))) l[n].ak l[n].up)) k (dJ l[k] (.ai (.sl 2 l[k].ag)) (IntKind.i64.wrap (l[k].ak-1)) l[k].up)).length 0 none)=some k) ?_
     refine af wQ ?_;obtain⟨o2,pH,fa⟩:=lu (name:=name) hn ef MB (q:={l[k]with ak:=(IntKind.i64.wrap (l[k].ak-1)),up:=(k:Int)}) (by rw[if_pos rK])
     refine⟨_,View.o 3 [] [1,2] ?_ (.nil _),kT _ fa⟩
     iterate 9 refine .aL ?_
     refine .eq rfl ?_;refine .put (.rv (.one (.dO (p:=none) (Ff (Z:=λk=>bh [1,2] k=true) rfl (by show some (Bk.row 9 _)=some (Bk.row 9 _);congr 1;exact congrArg _ Qp) (hq _ rfl) pH)))) ?_
     repeat(first|exact .nil|refine .aL ?_)
    .have rK:l[k].ah≠2:=rK;obtain⟨o2,pH,fa⟩:=lu (name:=name) hn ef MB (q:={l[k]with ak:=(IntKind.i64.wrap (l[k].ak-1))}) (by rw[if_neg rK])
     refine⟨_,View.o 3 [] [1,2] ?_ (.nil _),kT _ fa⟩
     iterate 9 refine .aL ?_
     refine .eq rfl ?_;refine .put (.rv (.one (.dO (p:=none) (Ff (Z:=λk=>bh [1,2] k=true) rfl (by show some (Bk.row 9 _)=some (Bk.row 9 _);congr 1;exact congrArg _ qF) (hq _ rfl) pH)))) ?_
     repeat(first|exact .nil|refine .aL ?_)
 .rw[if_neg (λh=>Ge h.1)]
  refine C7 l hs.pZ n ?_;rw[heb,Kk];refine af (fh (.row 2 2 0 none) l n rfl hn) ?_;refine af (pX (.row 2 2 0 none)) ?_;refine Kj a b x abW name hx ha hb 2 0 rfl rfl rfl rfl ?_;refine af (fh (.row 2 2 0 none) l n rfl hn) ?_;refine af (pX (.row 2 2 0 none)) ?_;by_cases Fg:k=n
  .have Qt:dp (cr n (.row 2 2 0 (some (a.length+b.length))) l) k=some (dJ l[k] (.row 2 2 0 (some (a.length+b.length))) l[k].ak l[k].up):=by rw[aX,gB,xm ef,aaS,nX,if_pos Fg]
   have qF:(aZ (aZ (cr n (.row 2 2 0 none) l) n (dJ l[n] (.row 2 2 0 (some (a.length+b.length))) l[n].ak l[n].up)) k (dJ l[k] (.row 2 2 0 (some (a.length+b.length))) (IntKind.i64.wrap (l[k].ak-1)) l[k].up))=cr n (.row 2 2 0 (some (a.length+b.length))) (l.set k {l[k]with ak:=(IntKind.i64.wrap (l[k].ak-1))}):=by
    rw[p6];have:=jx (p:=n) (c:= .row 2 2 0 (some (a.length+b.length))) (o:={l[k]with ak:=(IntKind.i64.wrap (l[k].ak-1))}) ef
    rw[<-this,nX,if_pos Fg]
   have wQ:dp (aZ (aZ (cr n (.row 2 2 0 none) l) n (dJ l[n] (.row 2 2 0 (some (a.length+b.length))) l[n].ak l[n].up)) k (dJ l[k] (.row 2 2 0 (some (a.length+b.length))) (IntKind.i64.wrap (l[k].ak-1)) l[k].up)) k=some (dJ l[k] (.row 2 2 0 (some (a.length+b.length))) (IntKind.i64.wrap (l[k].ak-1)) l[k].up):=by
    rw[br,aX,aal (by rw[p6,jw];exact ef)]
   refine af (by rw[p6];exact fh _ l k rfl ef:dW (k:Nat) (lenOf (aZ (cr n (.row 2 2 0 none) l) n (dJ l[n] (.row 2 2 0 (some (a.length+b.length))) l[n].ak l[n].up)).length 0 none)=some k) ?_
   refine af (by rw[p6];exact Qt:dp (aZ (cr n (.row 2 2 0 none) l) n (dJ l[n] (.row 2 2 0 (some (a.length+b.length))) l[n].ak l[n].up)) k=some (dJ l[k] (.row 2 2 0 (some (a.length+b.length))) l[k].ak l[k].up)) ?_
   refine af (by rw[p6];exact fh _ l k rfl ef:dW (k:Nat) (lenOf (aZ (cr n (.row 2 2 0 none) l) n (dJ l[n] (.row 2 2 0 (some (a.length+b.length))) l[n].ak l[n].up)).length 0 none)=some k) ?_
   refine af (by rw[p6];exact Qt:dp (aZ (cr n (.row 2 2 0 none) l) n (dJ l[n] (.row 2 2 0 (some (a.length+b.length))) l[n].ak l[n].up)) k=some (dJ l[k] (.row 2 2 0 (some (a.length+b.length))) l[k].ak l[k].up)) ?_
   refine af (by rw[qF];exact fh _ _ k (abn ..) ef:dW (k:Nat) (lenOf (aZ (aZ (cr n (.row 2 2 0 none) l) n (dJ l[n] (.row 2 2 0 (some (a.length+b.length))) l[n].ak l[n].up)) k (dJ l[k] (.row 2 2 0 (some (a.length+b.length))) (IntKind.i64.wrap (l[k].ak-1)) l[k].up)).length 0 none)=some k) ?_
   refine af wQ ?_;refine bc (λrK=>?_) (λrK=>?_)
   .have rK:l[k].ah=2:=rK;have Qp:(aZ (aZ (aZ (cr n (.row 2 2 0 none) l) n (dJ l[n] (.row 2 2 0 (some (a.length+b.length))) l[n].ak l[n].up)) k (dJ l[k] (.row 2 2 0 (some (a.length+b.length))) (IntKind.i64.wrap (l[k].ak-1)) l[k].up)) k (dJ l[k] (.row 2 2 0 (some (a.length+b.length))) (IntKind.i64.wrap (l[k].ak-1)) (k:Nat)))=cr n (.row 2 2 0 (some (a.length+b.length))) (l.set k {l[k]with ak:=(IntKind.i64.wrap (l[k].ak-1)),up:=(k:Int)}):=by
     rw[qF];have:=jx (p:=n) (c:= .row 2 2 0 (some (a.length+b.length))) (l:=l.set k {l[k]with ak:=(IntKind.i64.wrap (l[k].ak-1))}) (k:=k) (o:={l[k]with ak:=(IntKind.i64.wrap (l[k].ak-1)),up:=(k:Int)}) (by rw[abn];exact ef)
     rw[ad5]at this;rw[<-this,nX,if_pos Fg]
    refine af (by rw[qF];exact fh _ _ k (abn ..) ef:dW (k:Nat) (lenOf (aZ (aZ (cr n (.row 2 2 0 none) l) n (dJ l[n] (.row 2 2 0 (some (a.length+b.length))) l[n].ak l[n].up)) k (dJ l[k] (.row 2 2 0 (some (a.length+b.length))) (IntKind.i64.wrap (l[k].ak-1)) l[k].up)).length 0 none)=some k) ?_
    refine af wQ ?_;obtain⟨o2,pH,fa⟩:=lu (name:=name) hn ef MB (q:={l[k]with ak:=(IntKind.i64.wrap (l[k].ak-1)),up:=(k:Int)}) (by rw[if_pos rK])
    refine⟨_,View.o 3 [] [1,2] ?_ (.nil _),kT _ fa⟩
    iterate 9 refine .aL ?_
    refine .eq rfl ?_;refine .put (.rv (.one (.dO (p:=none) (Ff (Z:=λk=>bh [1,2] k=true) rfl (by show some (Bk.row 9 _)=some (Bk.row 9 _);congr 1;exact congrArg _ Qp) (hq _ rfl) pH)))) ?_
    repeat(first|exact .nil|refine .aL ?_)
   .have rK:l[k].ah≠2:=rK;obtain⟨o2,pH,fa⟩:=lu (name:=name) hn ef MB (q:={l[k]with ak:=(IntKind.i64.wrap (l[k].ak-1))}) (by rw[if_neg rK])
    refine⟨_,View.o 3 [] [1,2] ?_ (.nil _),kT _ fa⟩
    iterate 9 refine .aL ?_
    refine .eq rfl ?_;refine .put (.rv (.one (.dO (p:=none) (Ff (Z:=λk=>bh [1,2] k=true) rfl (by show some (Bk.row 9 _)=some (Bk.row 9 _);congr 1;exact congrArg _ qF) (hq _ rfl) pH)))) ?_
    repeat(first|exact .nil|refine .aL ?_)
  .have Qt:dp (cr n (.row 2 2 0 (some (a.length+b.length))) l) k=some (dJ l[k] (.ai (.sl 2 l[k].ag)) l[k].ak l[k].up):=by rw[aX,gB,xm ef,aaS,nX,if_neg Fg]
   have qF:(aZ (aZ (cr n (.row 2 2 0 none) l) n (dJ l[n] (.row 2 2 0 (some (a.length+b.length))) l[n].ak l[n].up)) k (dJ l[k] (.ai (.sl 2 l[k].ag)) (IntKind.i64.wrap (l[k].ak-1)) l[k].up))=cr n (.row 2 2 0 (some (a.length+b.length))) (l.set k {l[k]with ak:=(IntKind.i64.wrap (l[k].ak-1))}):=by
    rw[p6];have:=jx (p:=n) (c:= .row 2 2 0 (some (a.length+b.length))) (o:={l[k]with ak:=(IntKind.i64.wrap (l[k].ak-1))}) ef
    rw[<-this,nX,if_neg Fg]
   have wQ:dp (aZ (aZ (cr n (.row 2 2 0 none) l) n (dJ l[n] (.row 2 2 0 (some (a.length+b.length))) l[n].ak l[n].up)) k (dJ l[k] (.ai (.sl 2 l[k].ag)) (IntKind.i64.wrap (l[k].ak-1)) l[k].up)) k=some (dJ l[k] (.ai (.sl 2 l[k].ag)) (IntKind.i64.wrap (l[k].ak-1)) l[k].up):=by
    rw[br,aX,aal (by rw[p6,jw];exact ef)]
   refine af (by rw[p6];exact fh _ l k rfl ef:dW (k:Nat) (lenOf (aZ (cr n (.row 2 2 0 none) l) n (dJ l[n] (.row 2 2 0 (some (a.length+b.length))) l[n].ak l[n].up)).length 0 none)=some k) ?_
   refine af (by rw[p6];exact Qt:dp (aZ (cr n (.row 2 2 0 none) l) n (dJ l[n] (.row 2 2 0 (some (a.length+b.length))) l[n].ak l[n].up)) k=some (dJ l[k] (.ai (.sl 2 l[k].ag)) l[k].ak l[k].up)) ?_
   refine af (by rw[p6];exact fh _ l k rfl ef:dW (k:Nat) (lenOf (aZ (cr n (.row 2 2 0 none) l) n (dJ l[n] (.row 2 2 0 (some (a.length+b.length))) l[n].ak l[n].up)).length 0 none)=some k) ?_
   refine af (by rw[p6];exact Qt:dp (aZ (cr n (.row 2 2 0 none) l) n (dJ l[n] (.row 2 2 0 (some (a.length+b.length))) l[n].ak l[n].up)) k=some (dJ l[k] (.ai (.sl 2 l[k].ag)) l[k].ak l[k].up)) ?_
   refine af (by rw[qF];exact fh _ _ k (abn ..) ef:dW (k:Nat) (lenOf (aZ (aZ (cr n (.row 2 2 0 none) l) n (dJ l[n] (.row 2 2 0 (some (a.length+b.length))) l[n].ak l[n].up)) k (dJ l[k] (.ai (.sl 2 l[k].ag)) (IntKind.i64.wrap (l[k].ak-1)) l[k].up)).length 0 none)=some k) ?_
   refine af wQ ?_;refine bc (λrK=>?_) (λrK=>?_)
   .have rK:l[k].ah=2:=rK;have Qp:(aZ (aZ (aZ (cr n (.row 2 2 0 none) l) n (dJ l[n] (.row 2 2 0 (some (a.length+b.length))) l[n].ak l[n].up)) k (dJ l[k] (.ai (.sl 2 l[k].ag)) (IntKind.i64.wrap (l[k].ak-1)) l[k].up)) k (dJ l[k] (.ai (.sl 2 l[k].ag)) (IntKind.i64.wrap (l[k].ak-1)) (k:Nat)))=cr n (.row 2 2 0 (some (a.length+b.length))) (l.set k {l[k]with ak:=(IntKind.i64.wrap (l[k].ak-1)),up:=(k:Int)}):=by
     rw[qF];have:=jx (p:=n) (c:= .row 2 2 0 (some (a.length+b.length))) (l:=l.set k {l[k]with ak:=(IntKind.i64.wrap (l[k].ak-1))}) (k:=k) (o:={l[k]with ak:=(IntKind.i64.wrap (l[k].ak-1)),up:=(k:Int)}) (by rw[abn];exact ef)
     rw[ad5]at this;rw[<-this,nX,if_neg Fg]
    refine af (by rw[qF];exact fh _ _ k (abn ..) ef:dW (k:Nat) (lenOf (aZ (aZ (cr n (.row 2 2 0 none) l) n (dJ l[n] (.row 2 2 0 (some (a.length+b.length))) l[n].ak l[n].up)) k (dJ l[k] (.ai (.sl 2 l[k].ag)) (IntKind.i64.wrap (l[k].ak-1)) l[k].up)).length 0 none)=some k) ?_
    refine af wQ ?_;obtain⟨o2,pH,fa⟩:=lu (name:=name) hn ef MB (q:={l[k]with ak:=(IntKind.i64.wrap (l[k].ak-1)),up:=(k:Int)}) (by rw[if_pos rK])
    refine⟨_,View.o 3 [] [1,2] ?_ (.nil _),kT _ fa⟩
    iterate 9 refine .aL ?_
    refine .eq rfl ?_;refine .put (.rv (.one (.dO (p:=none) (Ff (Z:=λk=>bh [1,2] k=true) rfl (by show some (Bk.row 9 _)=some (Bk.row 9 _);congr 1;exact congrArg _ Qp) (hq _ rfl) pH)))) ?_
    repeat(first|exact .nil|refine .aL ?_)
   .have rK:l[k].ah≠2:=rK;obtain⟨o2,pH,fa⟩:=lu (name:=name) hn ef MB (q:={l[k]with ak:=(IntKind.i64.wrap (l[k].ak-1))}) (by rw[if_neg rK])
    refine⟨_,View.o 3 [] [1,2] ?_ (.nil _),kT _ fa⟩
    iterate 9 refine .aL ?_
    refine .eq rfl ?_;refine .put (.rv (.one (.dO (p:=none) (Ff (Z:=λk=>bh [1,2] k=true) rfl (by show some (Bk.row 9 _)=some (Bk.row 9 _);congr 1;exact congrArg _ qF) (hq _ rfl) pH)))) ?_
    repeat(first|exact .nil|refine .aL ?_)
theorem H3(l:List Obj)(hs:zq l)(dir:Int)(name:ByteArray){m:Mem}{K:CV->Mem->Prop}(h:K (.bI [oz (cO l dir name).1,cR (cO l dir name).2.1,cR (cO l dir name).2.2]) m):aq prog 77 [cQ l,am .i64 dir,ei name] m K:=by
 refine aT (K0:=λr m=>r= .bI [oz (cO l dir name).1,cR (cO l dir name).2.1,cR (cO l dir name).2.2]/\m=[]) (bP (cN func77 l77 (Da l hs dir name)) λr m1⟨r',m',hv,h1,h2⟩=>⟨r',m',hv,h1,h2⟩) (by simp[cQ,am,ei,CV.cY,CC.cY]) λr m1 hr=>?_
 obtain⟨rfl,rfl⟩:=hr;exact⟨_,cM.self rfl,h⟩
theorem H4(o:Obj)(hf:o.data.length<=4194304)(dq n:Int):body prog c66 [o.cv,am .i64 dq,am .i64 n] [] (λr m=>cM m r (.bI [byR (kp o.ah o.data dq n).1,cR (kp o.ah o.data dq n).2])):=by
 obtain⟨ah,data,ag,target,aI,aj,aQ,ak,up⟩:=o;have hf:data.length<=4194304:=hf;show body prog c66 _ [] (λr m=>cM m r (.bI [byR (kp ah data dq n).1,cR (kp ah data dq n).2]))
 refine bc (λh1=>?_) (λh1=>?_)
 .rw[kp,if_pos h1];exact ic (.one (.bv 1))
 refine bO (λh2=>?_) (λh2=>?_)
 .rw[kp,if_neg h1,if_pos h2];exact ic (.one (.bv 1))
 have hk:ah=1:=by simpa using h2
 refine an (λh3=>?_) (λh3=>?_)
 .rw[kp,if_neg h1,if_neg (by simpa using hk),if_pos (.inl h3)]
  exact ic (.one (.bv 1))
 refine an (λh4=>?_) (λh4=>?_)
 .rw[kp,if_neg h1,if_neg (by simpa using hk),if_pos (.inr h4)]
  exact ic (.one (.bv 1))
 rw[kp,if_neg h1,if_neg (by simpa using hk),if_neg (λh=>h.elim h3 h4)]
 have h3:¬dq<0:=h3;have h4:¬n<0:=h4;obtain⟨A,rfl⟩:∃A:Nat,dq=A:=⟨dq.toNat,om⟩;obtain⟨N,rfl⟩:∃N:Nat,n=N:=⟨n.toNat,om⟩;rw[show((A:Nat):Int).toNat=A from rfl,show((N:Nat):Int).toNat=N from rfl];have Lp:=pi A data.length;have hm2:=pi N (data.length-fz A data.length);have hL:pV (am .i64 (if(data.length:Int)<(A:Int)then(data.length:Int)else(A:Int)))=some (fz A data.length):=by rw[uf];rfl
 have hE:IntKind.i64.wrap ((if(data.length:Int)<(A:Int)then(data.length:Int)else(A:Int))+(if IntKind.i64.wrap ((data.length:Int)-(if(data.length:Int)<(A:Int)then(data.length:Int)else(A:Int)))<(N:Int)then IntKind.i64.wrap ((data.length:Int)-(if(data.length:Int)<(A:Int)then(data.length:Int)else(A:Int)))else(N:Int)))
   =((fz A data.length+fz N (data.length-fz A data.length):Nat):Int):=by
  rw[uf,show(data.length:Int)-((fz A data.length:Nat):Int)=((data.length-fz A data.length:Nat):Int) by omega,mG om,uf,
   show((fz A data.length:Nat):Int)+((fz N (data.length-fz A data.length):Nat):Int)=((fz A data.length+fz N (data.length-fz A data.length):Nat):Int) by omega,mG om]
 have hH:pV (am .i64 (IntKind.i64.wrap ((if(data.length:Int)<(A:Int)then(data.length:Int)else(A:Int))+(if IntKind.i64.wrap ((data.length:Int)-(if(data.length:Int)<(A:Int)then(data.length:Int)else(A:Int)))<(N:Int)then IntKind.i64.wrap ((data.length:Int)-(if(data.length:Int)<(A:Int)then(data.length:Int)else(A:Int)))else(N:Int)))))=some (fz A data.length+fz N (data.length-fz A data.length)):=by rw[hE];rfl
 refine af hL ?_;refine af hH ?_;refine bS (by rw[aaJ,ack,ack];show fz A data.length<=fz A data.length+fz N (data.length-fz A data.length)/\fz A data.length+fz N (data.length-fz A data.length)<=data.length;omega) ?_
 refine ju (E0 data A N) (by simp[E0];omega) ?_
 exact ic (dK.self rfl)
theorem Qu(o:Obj)(hf:o.data.length<=4194304)(dq n:Int){m:Mem}{K:CV->Mem->Prop}(h:K (.bI [byR (kp o.ah o.data dq n).1,cR (kp o.ah o.data dq n).2]) m):aq prog 66 [o.cv,am .i64 dq,am .i64 n] m K:=
 aT (aR func66 l66 (H4 o hf dq n)) (by simp[Obj.cv,Obj.enc,am,CV.cY,CC.cY,RV.cY]) λr m1 hf=>⟨_,hf,h⟩
def c65:LF:=Cq prog f65 [[2]] [[(eL 14 0 (.z7 (.cons 14 (some []) (eL 3 15 (.cons 18 (some [11,9,8,4]) (.cons 19 (some []) (.cons 20 none .nil))))) (.cons 18 (some [11,9,8,4]) (.cons 14 (some []) (eL 3 15 (.cons 19 (some []) (.cons 20 none .nil)))))))],[(eL 11 0 (.cons 11 (some [10,8,7,5]) (.cons 12 none (.cons 13 none .nil))))]]
def c72:LF:=Cq prog f72 [] [[(eL 12 0 (.cons 12 (some []) .nil))]]
def c78:LF:=Cq prog f78 [] []
namespace Kn
structure Cl where
 aQ:Int
 ah:Int
 fd:Int
 iQ:Int
 n:Int
 bQ:Int
 bb:Int
 cE:bY.eh
 data:List Int
structure An where
 iq:Int
 n:Int
 m:Int
 data:List (List Dt)
def An.no(e:Int):An:=⟨e,0,0,[]⟩
def An.enc(a:An):List Dt:=[.val (.int .i64 a.iq),.val (.int .i64 a.n),.val (.int .i64 a.m),.sl 1 a.data]
def An.rv(a:An):RV:= .agg (a.enc.map .ai)
def An.cv(a:An):CV:= .rv a.rv
def Cl.enc(c:Cl):List Dt:=[.val (.int .i64 c.aQ),.val (.int .i64 c.ah),.val (.int .i64 c.fd),.val (.int .i64 c.iQ),.val (.int .i64 c.n),.val (.int .i64 c.bQ),.val (.int .i64 c.bb),.val (.string (bY.cZ c.cE)),.sl 1 (dH c.data)]
def Cl.cv(c:Cl):CV:= .rv (.agg (c.enc.map .ai))
def cB(c:Cl):Bk:= .var (c.enc.map .ai)
def xC(k:Kr)(p:Nat):List Dt:=[cX k.l,de k.ops,dM k.ps,.val (.int .i64 (p:Nat))]
def xB(k:Kr)(p:Nat):Bk:= .var ((xC k p).map .ai)
def nc(a b:Int):Int:=IntKind.i64.wrap ((BitVec.ofInt 64 a&&&BitVec.ofInt 64 b).toNat:Int)
def X5(a b:Int):Int:=IntKind.i64.wrap ((BitVec.ofInt 64 a|||BitVec.ofInt 64 b).toNat:Int)
def iR(l:List dX)(fd need:Int):(Int×Int)×Int:=(((Tb.pM (l.map qN) fd need).1.ct,(Tb.pM (l.map qN) fd need).1.rts),(Tb.pM (l.map qN) fd need).2)
def lv(l:List dX)(fd:Int):(Int×Int)×Int:=(((Tb.fG (l.map qN) fd).1.ct,(Tb.fG (l.map qN) fd).1.rts),(Tb.fG (l.map qN) fd).2)
def zr(l:List dX)(fd:Int):List dX×Int:=((Tb.pg (l.map qN) fd).1.map Ts,(Tb.pg (l.map qN) fd).2)
def Qv(l:List dX)(fd:Int):List dX×Int×Int:=((Tb.xk (l.map qN) fd).1.map Ts,(Tb.xk (l.map qN) fd).2.1,(Tb.xk (l.map qN) fd).2.2)
def Qw(l:List dX)(fd n:Int):List dX×Int:=((Tb.CX (l.map qN) fd n).1.map Ts,(Tb.CX (l.map qN) fd n).2)
def X6(c:Int×Int):RV:= .agg [.ai (.val (.int .i64 c.1)),.ai (.val (.int .i64 c.2))]
theorem zt(l:List dX):mI l=Tb.fx (l.map qN):=by show _=CV.rv (.one (.ai (Tb.sJ (l.map qN))));rw[BA];rfl
theorem Fh(l:List dX)(fd need:Int){m:Mem}{K:CV->Mem->Prop}(h:K (.bI [X6 (iR l fd need).1,cR (iR l fd need).2]) m):aq prog 106 [mI l,am .i64 fd,am .i64 need] m K:=by rw[zt];exact Tb.ma _ fd need h
theorem TQ(l:List dX)(fd:Int){m:Mem}{K:CV->Mem->Prop}(h:K (.bI [X6 (lv l fd).1,cR (lv l fd).2]) m):aq prog 82 [mI l,am .i64 fd] m K:=by rw[zt];exact Tb.y5 _ fd h
theorem MI(l:List dX)(hl:l.length<=2097152)(fd:Int){m:Mem}{K:CV->Mem->Prop}(h:K (.bI [CH (zr l fd).1,cR (zr l fd).2]) m):aq prog 69 [mI l,am .i64 fd] m K:=by
 rw[zt];refine Tb.PR _ (by simpa using hl) fd ?_
 rw[rz];exact h
theorem TR(l:List dX)(hl:l.length<=2097152)(fd:Int){m:Mem}{K:CV->Mem->Prop}(h:K (.bI [CH (Qv l fd).1,cR (Qv l fd).2.1,cR (Qv l fd).2.2]) m):aq prog 70 [mI l,am .i64 fd] m K:=by
 rw[zt];refine Tb.XE _ (by simpa using hl) fd ?_
 rw[rz];exact h
theorem MJ(l:List dX)(hl:l.length<=2097152)(fd n:Int){m:Mem}{K:CV->Mem->Prop}(h:K (.bI [CH (Qw l fd n).1,cR (Qw l fd n).2]) m):aq prog 71 [mI l,am .i64 fd,am .i64 n] m K:=by
 rw[zt];refine Tb.PW _ (by simpa using hl) fd n ?_
 rw[rz];exact h
def lU(ops:List aV)(z:Int):Int:=match ops[z.toNat]? with|some o=>o.obj|none=>0
def qV(ops:List aV)(z:Int):Int:=match ops[z.toNat]? with|some o=>o.dq|none=>0
def bm(k:Kr)(p:Nat)(fd need:Int):(Int×Int)×Int×Int:=
 if(iR (aP k.ps p) fd need).2≠0 then((0,0),0,(iR (aP k.ps p) fd need).2)else((iR (aP k.ps p) fd need).1,lU k.ops (iR (aP k.ps p) fd need).1.1,0)
def gg(k:Kr)(p:Nat)(l:List dX)(e:Int):Kr:=if e=0 then⟨k.l,k.ops,dV k.ps p l⟩else k
def cu(k:Kr)(l:List Obj)(e:Int):Kr:=if e=0 then⟨l,k.ops,k.ps⟩else k
structure KW(k:Kr)(p:Nat):Prop where
 kr:dY k.l k.ops k.ps
 l40:k.l.length<=40
 DO:zq k.l
 lk:ph (k.l.map Obj.ob)
 nm:∀o,o∈k.l->∀e,e∈o.ag.map kN->e.1.size<=12
 hp:p<k.ps.length
 cap:∀s,s∈aP k.ps p->s.has=true->∃n j:Nat,s.ct=n/\n<k.ops.length/\lU k.ops n=j/\j<k.l.length
theorem kU{ps:List aM}{p:Nat}(hp:p<ps.length):aP ps p=ps[p].ap:=by rw[aP,xm hp]
theorem zu{l:List dX}{fd need:Int}(h:(iR l fd need).2=0):∃s,s∈l/\s.has=true/\(iR l fd need).1=(s.ct,s.rts):=by
 unfold iR Tb.pM at h|-;split at h
 .simp at h
 .rename_i hn;rw[if_neg hn];unfold Tb.fG at h|-;cases hx:(if 0<=fd then(l.map qN)[fd.toNat]? else none)with
  |none=>rw[hx]at h;simp at h
  |some s=>
   rw[hx]at h;simp only at h|-;cases hh:s.has with
   |false=>rw[hh]at h;simp at h
   |true=>
    split at hx
    .rw[Rn]at hx;cases hy:l[fd.toNat]? with
     |none=>rw[hy]at hx;cases hx
     |some t=>
      rw[hy]at hx;simp only[aaS,abi]at hx;subst hx;exact⟨t,Wm hy,hh,rfl⟩
    .cases hx
theorem KW.at{k:Kr}{p:Nat}(h:KW k p){fd need:Int}(he:(iR (aP k.ps p) fd need).2=0):∃n j:Nat,(iR (aP k.ps p) fd need).1.1=n/\n<k.ops.length/\lU k.ops n=j/\j<k.l.length:=by
 obtain⟨s,hs,hh,e⟩:=zu he;obtain⟨n,j,h1,h2⟩:=h.cap s hs hh;exact⟨n,j,by rw[e];exact h1,h2⟩
theorem KW.held{k:Kr}{p:Nat}(h:KW k p){fd need:Int}(he:(bm k p fd need).2.2=0):∃n j:Nat,(bm k p fd need).1.1=n/\n<k.ops.length/\(bm k p fd need).2.1=j/\j<k.l.length/\lU k.ops n=j:=by
 unfold bm at he|-;split at he
 .rename_i hn;exact absurd he hn
 .rename_i hn;rw[if_neg hn];obtain⟨n,j,h1,h2,h3,h4⟩:=h.at (Decidable.of_not_not hn);exact⟨n,j,h1,h2,by show lU k.ops _=_;rw[h1];exact h3,h4,h3⟩
theorem KW.pZ{k:Kr}{p:Nat}(h:KW k p):m8 k.l:=⟨h.kr.ll,λo ho=>(h.kr.sm o ho).pZ⟩
theorem jy{m:Mem}{Z:Nat->Prop}{id esz:Nat}{p:Option Nat}{ds:List (List Dt)}(hz:Z id)(hm:m[id]? =some (.row esz (aa ds))):cV m Z p (.row id esz 0 none) (.sl esz ds):=by
 refine cV.row id esz 0 none (aa ds) ds hz hm (by simp[aa]) (λi cs es h1 h2=>?_) (λi cs es j c d h1 h2 h3 h4=>?_)
 .simp only[aa,Rn,h2,aaS,abi]at h1;subst h1;simp
 .simp only[aa,Rn,h2,aaS,abi]at h1;subst h1;rw[Rn,h4]at h3;cases h3;exact .ai _
theorem oM(k:Kr)(p:Nat):xB k p≠.aE:=by intro h;cases h
theorem qW(c:Cl):cB c≠.aE:=by intro h;cases h
theorem X7{Y:Nat->Nat}{m:Mem}{Z:Nat->Prop}{id p:Nat}{a b c:CC}{k:Kr}(ha:cV m Z (some id) a (cX k.l))(hb:cV m Z (some id) b (de k.ops))(hc:cV m Z (some id) c (dM k.ps)):
  o6 Y m Z id (.var [a,b,c,.ai (.val (.int .i64 (p:Nat)))]) (xB k p):=
 dC.var (.cons (.dO ha) (.cons (.dO hb) (.cons (.dO hc) (.cons (.aO (.ai _)) .nil))))
theorem Kl{f:Nat}{args:List CV}(ha:∀Y,args.map (CV.aO Y)=args){k k':Kr}{p:Nat}{r0:CV}(hr:∀Y,r0.aO Y=r0)(hc:aq prog f (.rv (.one (.ptr 0 0))::args) [xB k p] (λr m=>r=r0/\m=[xB k' p])){m:Mem}(id:Nat)(hb:dp m id=some (xB k p)){K:CV->Mem->Prop}(hK:K r0 (aZ m id (xB k' p))):aq prog f (.rv (.one (.ptr id 0))::args) m K:=by
 have hid:id<m.length:=by rw[aX]at hb;exact(Mp.1 hb).1
 refine bi [id] m.length rfl rfl rfl (by simp[eP,hid]) (args0:= .rv (.one (.ptr 0 0))::args) (by rw[ac6,ha];rfl) (λi b' hi=>?_) hc (λr1 m1 DN=>?_)
 .cases i with
  |zero=>
   simp at hi;subst hi;refine .inr ⟨λh=>h,_,?_,.eq rfl (oM _ _)⟩
   rw[aX]at hb;exact hb
  |succ i=>simp at hi
 .obtain⟨rfl,rfl⟩:=DN;refine⟨aah _,?_⟩;rw[hr];show K _ (dA m [id] [xB k' p]);rw[yJ];exact hK
theorem Wb{f:Nat}{args:List CV}(ha:∀Y,args.map (CV.aO Y)=args){k k':Kr}{p:Nat}{c:Cl}{r0:CV}(hr:∀Y,r0.aO Y=r0)(hc:aq prog f (.rv (.one (.ptr 0 0)):: .rv (.one (.ptr 1 0))::args) [xB k p,cB c] (λr m=>r=r0/\m=[xB k' p,cB c])){m:Mem}(i j:Nat)(tw:iv [i,j]=true)(ay:eP m.length [i,j]=true)(hi:dp m i=some (xB k p))(hj:dp m j=some (cB c)){K:CV->Mem->Prop}(hK:K r0 (dA m [i,j] [xB k' p,cB c])):aq prog f (.rv (.one (.ptr i 0)):: .rv (.one (.ptr j 0))::args) m K:=by
 refine bi [i,j] m.length rfl rfl tw ay (args0:= .rv (.one (.ptr 0 0)):: .rv (.one (.ptr 1 0))::args) (by rw[ac6,ac6,ha];rfl) (λn b' hn=>?_) hc (λr1 m1 DN=>?_)
 .match n,hn with
  |0,hn=>
   cases hn;refine .inr ⟨λh=>h,_,?_,.eq rfl (oM _ _)⟩
   rw[aX]at hi;exact hi
  |1,hn=>
   cases hn;refine .inr ⟨λh=>h,_,?_,.eq rfl (qW _)⟩
   rw[aX]at hj;exact hj
  |n+2,hn=>simp at hn
 .obtain⟨rfl,rfl⟩:=DN;refine⟨aah _,?_⟩;rw[hr];exact hK
theorem l65:bA prog f65=some c65.er:=by kernel_rfl
def TS(x:(Int×Int)×Int×Int):CV:= .bI [X6 x.1,cR x.2.1,cR x.2.2]
def agt:LC:=bs (bs c65.code)
def agu:LC:=mK agt
theorem Fi(k:Kr)(p:Nat)(hw:KW k p)(fd need:Int):
  aw prog 1 agu (oi prog c65.mr (λr m=>r=TS (bm k p fd need)/\∃ex,m=xB k p::ex))
   ⟨jD 44 [(0,.rv (.one (.ptr 0 0))),(6,.rv (.one (.ptr 1 0))),(9,.rv (.one (.ptr 2 0))),(10,am .i64 (iR (aP k.ps p) fd need).2)],
    [xB k p,.var [.ai (.val (.int .i64 0)),.ai (.val (.int .i64 0))],.var [.ai (.val (.int .i64 (iR (aP k.ps p) fd need).1.1)),.ai (.val (.int .i64 (iR (aP k.ps p) fd need).1.2))]]⟩:=by
 have wF:= @KW.at k p hw fd need;have Jy:bm k p fd need=if(iR (aP k.ps p) fd need).2≠0 then((0,0),0,(iR (aP k.ps p) fd need).2)else((iR (aP k.ps p) fd need).1,lU k.ops (iR (aP k.ps p) fd need).1.1,0):=rfl
 rw[Jy];clear Jy;generalize iR (aP k.ps p) fd need=w at wF|-;obtain⟨⟨o,r⟩,e⟩:=w;refine bO (λhe=>?_) (λhe=>?_)
 .rw[if_pos he];exact⟨rfl,_,rfl⟩
 .have he:e=0:=he;subst he;obtain⟨n,j,h1,h2,h3,h4⟩:=wF rfl;have h1:o=n:=h1;subst h1;rw[if_neg aG];refine af (nC h2) ?_;have ho:lU k.ops (n:Int)=k.ops[n].obj:=by rw[lU,aam,xm h2]
  refine⟨⟨rfl,af (nC h2) rfl,rfl,rfl,trivial⟩,?_⟩;show _=TS ((_,_),lU k.ops (n:Int),0)/\_;rw[ho];exact⟨rfl,_,rfl⟩
theorem vz(k:Kr)(p:Nat)(hw:KW k p)(fd need:Int):
  body prog c65 [.rv (.one (.ptr 0 0)),am .i64 fd,am .i64 need] [xB k p] (λr m=>r=TS (bm k p fd need)/\∃ex,m=xB k p::ex):=by
 have hg:=fk hw.hp;rw[<-kU hw.hp]at hg;refine af hg ?_;refine⟨?_,?_⟩
 .refine Fh _ fd need ?_;refine⟨trivial,⟨rfl,af hg rfl,rfl,rfl,trivial⟩,trivial,_,View.o1 3 [0,1,2] [] ?_,Fi k p hw fd need⟩
  .exact .au
 .refine⟨⟨rfl,af hg rfl,rfl,rfl,trivial⟩,?_⟩;refine Fh _ fd need ?_;refine⟨trivial,trivial,_,View.o1 3 [0,1,2] [] ?_,Fi k p hw fd need⟩
  .exact .au
theorem ma(k:Kr)(p:Nat)(hw:KW k p)(fd need:Int){m:Mem}(id:Nat)(hb:dp m id=some (xB k p)){K:CV->Mem->Prop}(hK:K (TS (bm k p fd need)) m):
  aq prog 65 [.rv (.one (.ptr id 0)),am .i64 fd,am .i64 need] m K:=
 gN (args0:=[.rv (.one (.ptr 0 0)),am .i64 fd,am .i64 need]) (cs:=xC k p) id hb rfl rfl
  (λ_ hK=>fX rfl (cN func65 l65 (vz k p hw fd need)) hK) hK
theorem l72:bA prog f72=some c72:=by kernel_rfl
theorem l78:bA prog f78=some c78:=by kernel_rfl
def TX(Q:CV->Mem->Prop)(r:CV)(m:Mem):Prop:=∃r' m',View 1 ⟨[r],m⟩ ⟨[r'],m'⟩/\Q r' m'
theorem H5{ps:List aM}{n:Nat}(hn:n<ps.length)(y:List dX):aZ (aa (ps.map aM.enc)) n ((aM.enc ⟨ps[n].aF,ps[n].fenced,ps[n].code,y⟩).map .ai)=aa ((dV ps n y).map aM.enc):=by
 have:dV ps n y=ps.set n {ps[n]with ap:=y}:=by rw[dV,xm hn]
 rw[this,br,aa,aa,acF,acF]
theorem H6(k:Kr)(p:Nat)(hk:dY k.l k.ops k.ps)(hp:p<k.ps.length)(l:List dX)(e:Int):
  body prog c72 [.rv (.one (.ptr 0 0)),mI l,am .i64 e] [xB k p] (TX λr m=>r=am .i64 e/\m=[xB (gg k p l e) p]):=by
 refine bc (λhe=>?_) (λhe=>?_)
 .have he:e=0:=he;subst he;refine jM k.l k.ops k.ps ⟨hk.ll,λo ho=>(hk.sm o ho).pZ⟩ hk.lo hk.lp hk.sl hk.ne ?_
  refine af (nV hp) ?_;refine af (bq aM.enc k.ps hp) ?_;refine⟨trivial,_,_,View.o 4 [0] [1,2,3] (.eq rfl .nil) (.pt rfl rfl (X7 (k:=gg k p l 0) (jy rfl rfl) (jy rfl rfl) (jy rfl ?_)) (.nil _)),rfl,rfl⟩;refine congrArg (λx=>some (Bk.row 4 x)) ?_
  exact H5 hp l
 .have he:¬e=0:=he;refine⟨_,_,View.o 1 [0] [] (.eq rfl .nil) (.pt rfl rfl (.eq rfl (oM _ _)) (.nil _)),rfl,?_⟩;rw[gg,if_neg he]
theorem Fj(k:Kr)(p:Nat)(hk:dY k.l k.ops k.ps)(hp:p<k.ps.length)(l:List dX)(e:Int){m:Mem}(id:Nat)(hb:dp m id=some (xB k p)){K:CV->Mem->Prop}(hK:K (am .i64 e) (aZ m id (xB (gg k p l e) p))):
  aq prog 72 [.rv (.one (.ptr id 0)),mI l,am .i64 e] m K:=
 Kl (args:=[mI l,am .i64 e]) (λ_=>rfl) (λ_=>rfl)
  (bP (aR func72 l72 (H6 k p hk hp l e)) λr m1⟨r',m',hv,hq⟩=>⟨r',m',hv,hq⟩) id hb hK
theorem Db(k:Kr)(p:Nat)(hk:dY k.l k.ops k.ps)(l:List Obj)(e:Int):
  body prog c78 [.rv (.one (.ptr 0 0)),cQ l,am .i64 e] [xB k p] (TX λr m=>r=am .i64 e/\m=[xB (cu k l e) p]):=by
 refine bc (λhe=>?_) (λhe=>?_)
 .have he:e=0:=he;subst he;refine jM k.l k.ops k.ps ⟨hk.ll,λo ho=>(hk.sm o ho).pZ⟩ hk.lo hk.lp hk.sl hk.ne ?_
  exact⟨_,_,View.o 4 [0] [1,2,3] (.eq rfl .nil) (.pt rfl rfl (X7 (k:=cu k l 0) (.ai _) (jy rfl rfl) (jy rfl rfl)) (.nil _)),rfl,rfl⟩
 .have he:¬e=0:=he;refine⟨_,_,View.o 1 [0] [] (.eq rfl .nil) (.pt rfl rfl (.eq rfl (oM _ _)) (.nil _)),rfl,?_⟩;rw[cu,if_neg he]
theorem pj(k:Kr)(p:Nat)(hk:dY k.l k.ops k.ps)(l:List Obj)(e:Int){m:Mem}(id:Nat)(hb:dp m id=some (xB k p)){K:CV->Mem->Prop}(hK:K (am .i64 e) (aZ m id (xB (cu k l e) p))):
  aq prog 78 [.rv (.one (.ptr id 0)),cQ l,am .i64 e] m K:=
 Kl (args:=[cQ l,am .i64 e]) (λ_=>rfl) (λ_=>rfl)
  (bP (aR func78 l78 (Db k p hk l e)) λr m1⟨r',m',hv,hq⟩=>⟨r',m',hv,hq⟩) id hb hK
end Kn
end Go.Proofs.YtllkfpggoigbaaaGreatDoor
