/- The law TopShare, where what it reads is of bulk at most 1048576: whatever the input, it returns true, and the input reads as it did. -/
import Derived.Test.YthagjdhjmamakaaGreatDoorT16
import Derived.Test.YthagjdhjmamakaaGreatDoorT39
import Derived.Test.YthagjdhjmamakaaGreatDoorCards
import Derived.Test.YthagjdhjmamakaaGreatDoorTie
import Derived.WalkKit
import Derived.ProofKit
import Derived.OpenShut
import Derived.Deep.DeepHandedRow
import Derived.JoinedCond
import Derived.KernelRfl
set_option linter.unusedVariables false
set_option linter.unusedSimpArgs false
set_option linter.unnecessarySimpa false
set_option maxRecDepth 100000
set_option maxHeartbeats 64000000
namespace Go.Proofs.YthagjdhjmamakaaGreatDoor
open Go.AM Go.ChangeShapes Go.WideShapes Go.ChangeAt Go.RowKit
theorem BU:ownKnob Tryz.prog.godebug=none:=by kernel_rfl
theorem zq:laidOutB Tryz.prog=true:=by kernel_rfl
theorem jc{H:Type}(d:DataW H):1<=Rows.uptoBulk d:=by
 cases d with
 |lit l=>cases l<;>simp[Rows.uptoBulk]
 |_=>simp[Rows.uptoBulk]
theorem jv{H:Type}:∀l:List (DataW H),gD Rows.uptoBulk l=Rows.uptoBulkAll l
 | []=>by simp[gD,Rows.uptoBulkAll]
 |d::r=>by simp[gD,Rows.uptoBulkAll,jv r]
def zr(H:Type):G2 H where
 f:=Rows.uptoBulk
 str s:=by simp[Rows.uptoBulk]
 lit l:=jc _
 nil:=jc _
 slice a b:=by simp[Rows.uptoBulk,jv]
 agg a:=by simp[Rows.uptoBulk,jv]
def pf:List Sh:=[⟨false,[.s]⟩,⟨false,[.i .i64]⟩,⟨false,[.i .i64]⟩]
theorem zs:AE Tryz.prog Tryz.f4.params.toList=some pf:=by kernel_rfl
theorem zt(kZ:List (List Dt))(hf:sN pf kZ)(hb:Dt.eW kZ<=1048576):ar Tryz.prog 4 (nl pf kZ) [] fun r _=>r=aA true:=by
 cases hf with|cons h1 hf=>
 cases hf with|cons h2 hf=>
 cases hf with|cons h3 hf=>
 cases hf;cases h1 with|s v1 h1=>
 cases h1;cases h2 with|i _ v2 _ h2=>
 cases h2;cases h3 with|i _ v3 _ h3=>
 cases h3;have O7:v1.size<=4194304:=by simp only[Dt.eW,Dt.gu,Dt.size]at hb;omega
 exact Kn.Iz v1 O7 v2 v3
theorem rZ(H:Type)(enc:TypeId×Value->H)(W:World)(au:Nat)(args:Array Value)(ds gs:List (DataW H))(before:List MemPlace)(fK:∀(j:Nat)t v,Tryz.f4.params[j]? =some t->args[j]? =some v->Value.okWide Tryz.prog W .any au t v)(hk:Rows.uptoSmall H (ds++gs)=true)(hW:DataW.Whole enc Tryz.prog Tryz.f4.params.toList Rows.topShareSpec.vars false W args.toList ds gs before):
  Calls Tryz.prog 4 args W fun e W'=>∃v,e= .returned v/\Rows.topShareSpec.post enc Tryz.prog Tryz.f4 false true false false W args v W':=by
 refine l9 (zr H) zq Tryz.underlying4 (by kernel_rfl) rfl ?_ zs (by kernel_rfl) ?_ fK hW
 .intro ds CN
  match ds,CN with
  | [d1,d2,d3],_=>rfl
 .intro kZ hf dj;refine zt kZ hf (aaC dj ?_);have h1:Rows.uptoBulkAll (ds++gs)<=1048576:=of_decide_eq_true hk;have h2:∀a b:List (DataW H),Rows.uptoBulkAll a<=Rows.uptoBulkAll (a++b):=by
   intro a b
   induction a with
   |nil=>simp[Rows.uptoBulkAll]
   |cons x r ih=>simp only[aby,Rows.uptoBulkAll];omega
  show gD Rows.uptoBulk ds<=1048576;rw[jv];exact aaC (h2 ds gs) h1
def oH(vs:Array Value):Go.Obj->Go.Obj
 | .cells _ t jD=>.cells vs t jD
 |o=>o
def BV:Array Value:= #[.int .u8 128,.int .u8 191,.int .u8 160,.int .u8 191,.int .u8 128,.int .u8 159,.int .u8 144,.int .u8 191,.int .u8 128,.int .u8 143,.int .u8 0,.int .u8 0,.int .u8 0,.int .u8 0,.int .u8 0,.int .u8 0,.int .u8 0,.int .u8 0,.int .u8 0,.int .u8 0,.int .u8 0,.int .u8 0,.int .u8 0,.int .u8 0,.int .u8 0,.int .u8 0,.int .u8 0,.int .u8 0,.int .u8 0,.int .u8 0,.int .u8 0,.int .u8 0]
noncomputable def ln(os:Os):World:=
 {World.holding Tryz.prog os ⟨#[],#[],[]⟩with
  heap:=((World.holding Tryz.prog os ⟨#[],#[],[]⟩).heap.modify 1 (oH (Go.Pinned.utf8FirstZ.map fun n=>Value.int .u8 ((n:Nat):Int)).toArray)).modify 2 (oH BV)}
theorem BW(os:Os):laidMet Tryz.prog Rows.topShareUptoRow.laid ((ln os).forCall (fun _ _=>0) ⟨#[],#[.string ⟨#[]⟩,.int .i64 0,.int .i64 0],[]⟩).memory:=
 laidMet_of_run' 8 (by kernel_rfl) (by kernel_rfl)
theorem wB(os:Os){H:Type}(enc:TypeId×Value->H):∃places,DataW.whole enc Tryz.prog ((ln os).forCall (fun _ _=>0) ⟨#[],#[.string ⟨#[]⟩,.int .i64 0,.int .i64 0],[]⟩).memory Tryz.f4.params.toList Rows.topShareSpec.vars false (#[.string ⟨#[]⟩,.int .i64 0,.int .i64 0]:Array Value).toList 8=some ([.lit (.string []),.lit (.int .i64 0),.lit (.int .i64 0)],[],places):=
 ⟨[],by kernel_rfl⟩
theorem vR(os:Os)(started:os.Started)(H:Type)(enc:TypeId×Value->H)(F:Stop.Interp):
  ReturnsInHanded {} Tryz.checked os 4 .any ((Rows.OpenSpec.upto Rows.topShareSpec).preRow enc Tryz.prog Tryz.f4 Rows.topShareUptoRow.domain false Rows.topShareUptoRow.laid) (((Rows.OpenSpec.upto Rows.topShareSpec).at F).post enc Tryz.prog Tryz.f4 false true false false):=by
 obtain⟨places,hx⟩:=wB os enc;refine returnsInHanded_of_row (C:=Tryz.checked) (s:=Rows.OpenSpec.upto Rows.topShareSpec) BU started (by as_aux_lemma=>kernel_rfl) Tryz.func4
  (witness_row_at (enc:=enc) (C:=Tryz.checked) false (ln os) #[.string ⟨#[]⟩,.int .i64 0,.int .i64 0] rfl (by as_aux_lemma=>kernel_rfl) (by as_aux_lemma=>kernel_rfl) (by as_aux_lemma=>kernel_rfl)
   (OpenSpec.preRow_of_cond 8 hx (by as_aux_lemma=>kernel_rfl) (fun k hk=>by cases hk;as_aux_lemma=>kernel_rfl) (by as_aux_lemma=>kernel_rfl) (BW os))) ?_
 intro W au args ds gs before fK hW _ hk _ _ _ _;exact rZ H enc W au args ds gs before fK (hk _ rfl) hW
theorem wC{a b:Bool}(h:a=true)(g:b=true):(a&&b)=true:=by rw[h,g];rfl
theorem vS:joinedFacts Tryz.pinned.checked.prog 4 Tryz.f4 (Rows.OpenSpec.upto Rows.topShareSpec).bare Rows.topShareUptoRow=true:=by
 unfold joinedFacts;repeat' with_reducible refine wC ?_ ?_
 all_goals as_aux_lemma=>kernel_rfl
theorem B0:Rows.TopShareUptoSaid:=
 OpenClaim.holds_of_cond 4 Tryz.f4 rfl rfl rfl rfl rfl rfl rfl ⟨rfl,rfl,rfl,rfl,rfl⟩ rfl rfl rfl rfl rfl (by as_aux_lemma=>kernel_rfl) Tryz.func4 vS
  (of_decide_eq_true (by as_aux_lemma=>kernel_rfl)) (by unfold Func.isWrapper;first|(rw[if_pos (by as_aux_lemma=>decide+kernel)];kernel_rfl)|(rw[if_neg (by as_aux_lemma=>decide+kernel)];exact⟨rfl,rfl⟩))
  (fun os started H enc _ F=>by rw[OpenClaim.pre_eq_preRow];exact vR os started H enc F)
theorem wD(f:FuncId)(fn:Func)(hf:Tryz.pinned.checked.prog.funcNamed Tryz.f4.name=some f)(PU:Tryz.pinned.checked.prog.funcs[f]? =some fn):
  false=Tryz.pinned.checked.prog.looks []/\∀(j:Nat)t,fn.params[j]? =some t->Tryz.pinned.checked.prog.wantsStandIn t=false:=by
 obtain rfl:f=4:=abl ((show Tryz.prog.funcNamed Tryz.f4.name=some 4 by kernel_rfl).symm.trans hf)|>.symm
 obtain rfl:fn=Tryz.f4:=(abl (Tryz.func4.symm.trans PU)).symm;refine⟨by kernel_rfl,fun j t ht=>?_⟩
 rw[Tryz.params4]at ht;have ht:t=9\/t=3:=by have h0:=ab1 ht;simp at h0;grind
 rcases ht with rfl|rfl
 .exact(show Tryz.prog.wantsStandIn 9=false by kernel_rfl)
 .exact(show Tryz.prog.wantsStandIn 3=false by kernel_rfl)
theorem B2:Rows.TopShareUptoCardSaid:=
 Claim7.holds_tied_plain_at .later [] _ _ _ _ B0 (fun _ h=>by cases h) (by kernel_rfl) (fun _ h=>by cases h) topShareUpto_row_tie rfl ⟨rfl,rfl⟩ (by kernel_rfl) rfl wD (by kernel_rfl)
end Go.Proofs.YthagjdhjmamakaaGreatDoor
