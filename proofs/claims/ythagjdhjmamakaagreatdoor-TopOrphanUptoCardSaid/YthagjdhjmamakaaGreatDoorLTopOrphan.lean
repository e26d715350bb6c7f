/- The law TopOrphan, where what it reads is of bulk at most 1048576: whatever the input, it returns true, and the input reads as it did. -/
import Derived.Test.YthagjdhjmamakaaGreatDoorT16
import Derived.Test.YthagjdhjmamakaaGreatDoorU46
import Derived.Test.YthagjdhjmamakaaGreatDoorCards
import Derived.Test.YthagjdhjmamakaaGreatDoorTie
import Derived.WalkKit
import Derived.ProofKit
import Derived.OpenShut
import Derived.Deep.DeepHandedRow
import Derived.JoinedCond
import Derived.KernelRfl
set_option linter.unusedVariables false
set_option linter.unusedSimpArgs false
set_option linter.unnecessarySimpa false
set_option maxRecDepth 100000
set_option maxHeartbeats 64000000
namespace Go.Proofs.YthagjdhjmamakaaGreatDoor
open Go.AM Go.ChangeShapes Go.WideShapes Go.ChangeAt Go.RowKit
theorem ownTopOrphan:ownKnob Tryz.prog.godebug=none:=by kernel_rfl
theorem laidTopOrphan:laidOutB Tryz.prog=true:=by kernel_rfl
theorem one_le_bulkTopOrphan{H:Type}(d:DataW H):1<=Rows.uptoBulk d:=by
 cases d with
 |lit l=>cases l<;>simp[Rows.uptoBulk]
 |_=>simp[Rows.uptoBulk]
theorem wSumTopOrphan{H:Type}:∀l:List (DataW H),gD Rows.uptoBulk l=Rows.uptoBulkAll l
 | []=>by simp[gD,Rows.uptoBulkAll]
 |d::r=>by simp[gD,Rows.uptoBulkAll,wSumTopOrphan r]
def bulkTopOrphan(H:Type):G2 H where
 f:=Rows.uptoBulk
 str s:=by simp[Rows.uptoBulk]
 lit l:=one_le_bulkTopOrphan _
 nil:=one_le_bulkTopOrphan _
 slice a b:=by simp[Rows.uptoBulk,wSumTopOrphan]
 agg a:=by simp[Rows.uptoBulk,wSumTopOrphan]
def shTopOrphan:List Sh:=[⟨false,[.i .i64]⟩,⟨false,[.b]⟩,⟨false,[.i .i64]⟩]
theorem shOfTopOrphan:AE Tryz.prog Tryz.f7.params.toList=some shTopOrphan:=by kernel_rfl
theorem walkTopOrphan(kZ:List (List Dt))(hf:sN shTopOrphan kZ)(hb:Dt.eW kZ<=1048576):ar Tryz.prog 7 (nl shTopOrphan kZ) [] fun r _=>r=aA true:=by
 cases hf with|cons h1 hf=>
 cases hf with|cons h2 hf=>
 cases hf with|cons h3 hf=>
 cases hf;cases h1 with|i _ v1 _ h1=>
 cases h1;cases h2 with|b v2 h2=>
 cases h2;cases h3 with|i _ v3 _ h3=>
 cases h3;exact Kn.torphan_ok v1 v2 v3
theorem contractTopOrphan(H:Type)(enc:TypeId×Value->H)(W:World)(au:Nat)(args:Array Value)(ds gs:List (DataW H))(before:List MemPlace)(fK:∀(j:Nat)t v,Tryz.f7.params[j]? =some t->args[j]? =some v->Value.okWide Tryz.prog W .any au t v)(hk:Rows.uptoSmall H (ds++gs)=true)(hW:DataW.Whole enc Tryz.prog Tryz.f7.params.toList Rows.topOrphanSpec.vars false W args.toList ds gs before):
  Calls Tryz.prog 7 args W fun e W'=>∃v,e= .returned v/\Rows.topOrphanSpec.post enc Tryz.prog Tryz.f7 false true false false W args v W':=by
 refine l9 (bulkTopOrphan H) laidTopOrphan Tryz.underlying4 (by kernel_rfl) rfl ?_ shOfTopOrphan (by kernel_rfl) ?_ fK hW
 .intro ds CN
  match ds,CN with
  | [d1,d2,d3],_=>rfl
 .intro kZ hf dj;refine walkTopOrphan kZ hf (aaC dj ?_);have h1:Rows.uptoBulkAll (ds++gs)<=1048576:=of_decide_eq_true hk;have h2:∀a b:List (DataW H),Rows.uptoBulkAll a<=Rows.uptoBulkAll (a++b):=by
   intro a b
   induction a with
   |nil=>simp[Rows.uptoBulkAll]
   |cons x r ih=>simp only[aby,Rows.uptoBulkAll];omega
  show gD Rows.uptoBulk ds<=1048576;rw[wSumTopOrphan];exact aaC (h2 ds gs) h1
def layAtTopOrphan(vs:Array Value):Go.Obj->Go.Obj
 | .cells _ t jD=>.cells vs t jD
 |o=>o
def accTopOrphan:Array Value:= #[.int .u8 128,.int .u8 191,.int .u8 160,.int .u8 191,.int .u8 128,.int .u8 159,.int .u8 144,.int .u8 191,.int .u8 128,.int .u8 143,.int .u8 0,.int .u8 0,.int .u8 0,.int .u8 0,.int .u8 0,.int .u8 0,.int .u8 0,.int .u8 0,.int .u8 0,.int .u8 0,.int .u8 0,.int .u8 0,.int .u8 0,.int .u8 0,.int .u8 0,.int .u8 0,.int .u8 0,.int .u8 0,.int .u8 0,.int .u8 0,.int .u8 0,.int .u8 0]
noncomputable def worldTopOrphan(os:Os):World:=
 {World.holding Tryz.prog os ⟨#[],#[],[]⟩with
  heap:=((World.holding Tryz.prog os ⟨#[],#[],[]⟩).heap.modify 1 (layAtTopOrphan (Go.Pinned.utf8FirstZ.map fun n=>Value.int .u8 ((n:Nat):Int)).toArray)).modify 2 (layAtTopOrphan accTopOrphan)}
theorem metTopOrphan(os:Os):laidMet Tryz.prog Rows.topOrphanUptoRow.laid ((worldTopOrphan os).forCall (fun _ _=>0) ⟨#[],#[.int .i64 0,.bool false,.int .i64 0],[]⟩).memory:=
 laidMet_of_run' 8 (by kernel_rfl) (by kernel_rfl)
theorem readsTopOrphan(os:Os){H:Type}(enc:TypeId×Value->H):∃places,DataW.whole enc Tryz.prog ((worldTopOrphan os).forCall (fun _ _=>0) ⟨#[],#[.int .i64 0,.bool false,.int .i64 0],[]⟩).memory Tryz.f7.params.toList Rows.topOrphanSpec.vars false (#[.int .i64 0,.bool false,.int .i64 0]:Array Value).toList 8=some ([.lit (.int .i64 0),.lit (.bool false),.lit (.int .i64 0)],[],places):=
 ⟨[],by kernel_rfl⟩
theorem liftedTopOrphan(os:Os)(started:os.Started)(H:Type)(enc:TypeId×Value->H)(F:Stop.Interp):
  ReturnsInHanded {} Tryz.checked os 7 .any ((Rows.OpenSpec.upto Rows.topOrphanSpec).preRow enc Tryz.prog Tryz.f7 Rows.topOrphanUptoRow.domain false Rows.topOrphanUptoRow.laid) (((Rows.OpenSpec.upto Rows.topOrphanSpec).at F).post enc Tryz.prog Tryz.f7 false true false false):=by
 obtain⟨places,hx⟩:=readsTopOrphan os enc;refine returnsInHanded_of_row (C:=Tryz.checked) (s:=Rows.OpenSpec.upto Rows.topOrphanSpec) ownTopOrphan started (by as_aux_lemma=>kernel_rfl) Tryz.func7
  (witness_row_at (enc:=enc) (C:=Tryz.checked) false (worldTopOrphan os) #[.int .i64 0,.bool false,.int .i64 0] rfl (by as_aux_lemma=>kernel_rfl) (by as_aux_lemma=>kernel_rfl) (by as_aux_lemma=>kernel_rfl)
   (OpenSpec.preRow_of_cond 8 hx (by as_aux_lemma=>kernel_rfl) (fun k hk=>by cases hk;as_aux_lemma=>kernel_rfl) (by as_aux_lemma=>kernel_rfl) (metTopOrphan os))) ?_
 intro W au args ds gs before fK hW _ hk _ _ _ _;exact contractTopOrphan H enc W au args ds gs before fK (hk _ rfl) hW
theorem and_iTopOrphan{a b:Bool}(h:a=true)(g:b=true):(a&&b)=true:=by rw[h,g];rfl
theorem closedTopOrphan:joinedFacts Tryz.pinned.checked.prog 7 Tryz.f7 (Rows.OpenSpec.upto Rows.topOrphanSpec).bare Rows.topOrphanUptoRow=true:=by
 unfold joinedFacts;repeat' with_reducible refine and_iTopOrphan ?_ ?_
 all_goals as_aux_lemma=>kernel_rfl
theorem rowTopOrphan:Rows.TopOrphanUptoSaid:=
 OpenClaim.holds_of_cond 7 Tryz.f7 rfl rfl rfl rfl rfl rfl rfl ⟨rfl,rfl,rfl,rfl,rfl⟩ rfl rfl rfl rfl rfl (by as_aux_lemma=>kernel_rfl) Tryz.func7 closedTopOrphan
  (of_decide_eq_true (by as_aux_lemma=>kernel_rfl)) (by unfold Func.isWrapper;first|(rw[if_pos (by as_aux_lemma=>decide+kernel)];kernel_rfl)|(rw[if_neg (by as_aux_lemma=>decide+kernel)];exact⟨rfl,rfl⟩))
  (fun os started H enc _ F=>by rw[OpenClaim.pre_eq_preRow];exact liftedTopOrphan os started H enc F)
theorem plainTopOrphan(f:FuncId)(fn:Func)(hf:Tryz.pinned.checked.prog.funcNamed Tryz.f7.name=some f)(PU:Tryz.pinned.checked.prog.funcs[f]? =some fn):
  false=Tryz.pinned.checked.prog.looks []/\∀(j:Nat)t,fn.params[j]? =some t->Tryz.pinned.checked.prog.wantsStandIn t=false:=by
 obtain rfl:f=7:=abl ((show Tryz.prog.funcNamed Tryz.f7.name=some 7 by kernel_rfl).symm.trans hf)|>.symm
 obtain rfl:fn=Tryz.f7:=(abl (Tryz.func7.symm.trans PU)).symm;refine⟨by kernel_rfl,fun j t ht=>?_⟩
 rw[Tryz.params7]at ht;have ht:t=3\/t=4:=by have h0:=ab1 ht;simp at h0;grind
 rcases ht with rfl|rfl
 .exact(show Tryz.prog.wantsStandIn 3=false by kernel_rfl)
 .exact(show Tryz.prog.wantsStandIn 4=false by kernel_rfl)
theorem topOrphanUptoCardSaid:Rows.TopOrphanUptoCardSaid:=
 Claim7.holds_tied_plain_at .later [] _ _ _ _ rowTopOrphan (fun _ h=>by cases h) (by kernel_rfl) (fun _ h=>by cases h) topOrphanUpto_row_tie rfl ⟨rfl,rfl⟩ (by kernel_rfl) rfl plainTopOrphan (by kernel_rfl)
end Go.Proofs.YthagjdhjmamakaaGreatDoor
