/- The law TopGone, where what it reads is of bulk at most 1048576: whatever the input, it returns true, and the input reads as it did. -/
import Derived.Test.YthagjdhjmamakaaGreatDoorT16
import Derived.Test.YthagjdhjmamakaaGreatDoorT43
import Derived.Test.YthagjdhjmamakaaGreatDoorCards
import Derived.Test.YthagjdhjmamakaaGreatDoorTie
import Derived.WalkKit
import Derived.ProofKit
import Derived.OpenShut
import Derived.Deep.DeepHandedRow
import Derived.JoinedCond
import Derived.KernelRfl
set_option linter.unusedVariables false
set_option linter.unusedSimpArgs false
set_option linter.unnecessarySimpa false
set_option maxRecDepth 100000
set_option maxHeartbeats 64000000
namespace Go.Proofs.YthagjdhjmamakaaGreatDoor
open Go.AM Go.ChangeShapes Go.WideShapes Go.ChangeAt Go.RowKit
theorem E0:ownKnob Tryz.prog.godebug=none:=by kernel_rfl
theorem B8:laidOutB Tryz.prog=true:=by kernel_rfl
theorem j0{H:Type}(d:DataW H):1<=Rows.uptoBulk d:=by
 cases d with
 |lit l=>cases l<;>simp[Rows.uptoBulk]
 |_=>simp[Rows.uptoBulk]
theorem kV{H:Type}:∀l:List (DataW H),gD Rows.uptoBulk l=Rows.uptoBulkAll l
 | []=>by simp[gD,Rows.uptoBulkAll]
 |d::r=>by simp[gD,Rows.uptoBulkAll,kV r]
def B9(H:Type):G2 H where
 f:=Rows.uptoBulk
 str s:=by simp[Rows.uptoBulk]
 lit l:=j0 _
 nil:=j0 _
 slice a b:=by simp[Rows.uptoBulk,kV]
 agg a:=by simp[Rows.uptoBulk,kV]
def sa:List Sh:=[⟨false,[.s]⟩,⟨false,[.i .i64]⟩]
theorem Ca:AE Tryz.prog Tryz.f6.params.toList=some sa:=by kernel_rfl
theorem Cb(kZ:List (List Dt))(hf:sN sa kZ)(hb:Dt.eW kZ<=1048576):ar Tryz.prog 6 (nl sa kZ) [] fun r _=>r=aA true:=by
 cases hf with|cons h1 hf=>
 cases hf with|cons h2 hf=>
 cases hf;cases h1 with|s v1 h1=>
 cases h1;cases h2 with|i _ v2 _ h2=>
 cases h2;have O7:v1.size<=4194304:=by simp only[Dt.eW,Dt.gu,Dt.size]at hb;omega
 exact Kn.Me v1 O7 v2
theorem tx(H:Type)(enc:TypeId×Value->H)(W:World)(au:Nat)(args:Array Value)(ds gs:List (DataW H))(before:List MemPlace)(fK:∀(j:Nat)t v,Tryz.f6.params[j]? =some t->args[j]? =some v->Value.okWide Tryz.prog W .any au t v)(hk:Rows.uptoSmall H (ds++gs)=true)(hW:DataW.Whole enc Tryz.prog Tryz.f6.params.toList Rows.topGoneSpec.vars false W args.toList ds gs before):
  Calls Tryz.prog 6 args W fun e W'=>∃v,e= .returned v/\Rows.topGoneSpec.post enc Tryz.prog Tryz.f6 false true false false W args v W':=by
 refine l9 (B9 H) B8 Tryz.underlying4 (by kernel_rfl) rfl ?_ Ca (by kernel_rfl) ?_ fK hW
 .intro ds CN
  match ds,CN with
  | [d1,d2],_=>rfl
 .intro kZ hf dj;refine Cb kZ hf (aaC dj ?_);have h1:Rows.uptoBulkAll (ds++gs)<=1048576:=of_decide_eq_true hk;have h2:∀a b:List (DataW H),Rows.uptoBulkAll a<=Rows.uptoBulkAll (a++b):=by
   intro a b
   induction a with
   |nil=>simp[Rows.uptoBulkAll]
   |cons x r ih=>simp only[aby,Rows.uptoBulkAll];omega
  show gD Rows.uptoBulk ds<=1048576;rw[kV];exact aaC (h2 ds gs) h1
def qG(vs:Array Value):Go.Obj->Go.Obj
 | .cells _ t jD=>.cells vs t jD
 |o=>o
def E3:Array Value:= #[.int .u8 128,.int .u8 191,.int .u8 160,.int .u8 191,.int .u8 128,.int .u8 159,.int .u8 144,.int .u8 191,.int .u8 128,.int .u8 143,.int .u8 0,.int .u8 0,.int .u8 0,.int .u8 0,.int .u8 0,.int .u8 0,.int .u8 0,.int .u8 0,.int .u8 0,.int .u8 0,.int .u8 0,.int .u8 0,.int .u8 0,.int .u8 0,.int .u8 0,.int .u8 0,.int .u8 0,.int .u8 0,.int .u8 0,.int .u8 0,.int .u8 0,.int .u8 0]
noncomputable def mC(os:Os):World:=
 {World.holding Tryz.prog os ⟨#[],#[],[]⟩with
  heap:=((World.holding Tryz.prog os ⟨#[],#[],[]⟩).heap.modify 1 (qG (Go.Pinned.utf8FirstZ.map fun n=>Value.int .u8 ((n:Nat):Int)).toArray)).modify 2 (qG E3)}
theorem E4(os:Os):laidMet Tryz.prog Rows.topGoneUptoRow.laid ((mC os).forCall (fun _ _=>0) ⟨#[],#[.string ⟨#[]⟩,.int .i64 0],[]⟩).memory:=
 laidMet_of_run' 8 (by kernel_rfl) (by kernel_rfl)
theorem zA(os:Os){H:Type}(enc:TypeId×Value->H):∃places,DataW.whole enc Tryz.prog ((mC os).forCall (fun _ _=>0) ⟨#[],#[.string ⟨#[]⟩,.int .i64 0],[]⟩).memory Tryz.f6.params.toList Rows.topGoneSpec.vars false (#[.string ⟨#[]⟩,.int .i64 0]:Array Value).toList 8=some ([.lit (.string []),.lit (.int .i64 0)],[],places):=
 ⟨[],by kernel_rfl⟩
theorem wG(os:Os)(started:os.Started)(H:Type)(enc:TypeId×Value->H)(F:Stop.Interp):
  ReturnsInHanded {} Tryz.checked os 6 .any ((Rows.OpenSpec.upto Rows.topGoneSpec).preRow enc Tryz.prog Tryz.f6 Rows.topGoneUptoRow.domain false Rows.topGoneUptoRow.laid) (((Rows.OpenSpec.upto Rows.topGoneSpec).at F).post enc Tryz.prog Tryz.f6 false true false false):=by
 obtain⟨places,hx⟩:=zA os enc;refine returnsInHanded_of_row (C:=Tryz.checked) (s:=Rows.OpenSpec.upto Rows.topGoneSpec) E0 started (by as_aux_lemma=>kernel_rfl) Tryz.func6
  (witness_row_at (enc:=enc) (C:=Tryz.checked) false (mC os) #[.string ⟨#[]⟩,.int .i64 0] rfl (by as_aux_lemma=>kernel_rfl) (by as_aux_lemma=>kernel_rfl) (by as_aux_lemma=>kernel_rfl)
   (OpenSpec.preRow_of_cond 8 hx (by as_aux_lemma=>kernel_rfl) (fun k hk=>by cases hk;as_aux_lemma=>kernel_rfl) (by as_aux_lemma=>kernel_rfl) (E4 os))) ?_
 intro W au args ds gs before fK hW _ hk _ _ _ _;exact tx H enc W au args ds gs before fK (hk _ rfl) hW
theorem zB{a b:Bool}(h:a=true)(g:b=true):(a&&b)=true:=by rw[h,g];rfl
theorem wH:joinedFacts Tryz.pinned.checked.prog 6 Tryz.f6 (Rows.OpenSpec.upto Rows.topGoneSpec).bare Rows.topGoneUptoRow=true:=by
 unfold joinedFacts;repeat' with_reducible refine zB ?_ ?_
 all_goals as_aux_lemma=>kernel_rfl
theorem E5:Rows.TopGoneUptoSaid:=
 OpenClaim.holds_of_cond 6 Tryz.f6 rfl rfl rfl rfl rfl rfl rfl ⟨rfl,rfl,rfl,rfl,rfl⟩ rfl rfl rfl rfl rfl (by as_aux_lemma=>kernel_rfl) Tryz.func6 wH
  (of_decide_eq_true (by as_aux_lemma=>kernel_rfl)) (by unfold Func.isWrapper;first|(rw[if_pos (by as_aux_lemma=>decide+kernel)];kernel_rfl)|(rw[if_neg (by as_aux_lemma=>decide+kernel)];exact⟨rfl,rfl⟩))
  (fun os started H enc _ F=>by rw[OpenClaim.pre_eq_preRow];exact wG os started H enc F)
theorem zC(f:FuncId)(fn:Func)(hf:Tryz.pinned.checked.prog.funcNamed Tryz.f6.name=some f)(PU:Tryz.pinned.checked.prog.funcs[f]? =some fn):
  false=Tryz.pinned.checked.prog.looks []/\∀(j:Nat)t,fn.params[j]? =some t->Tryz.pinned.checked.prog.wantsStandIn t=false:=by
 obtain rfl:f=6:=abl ((show Tryz.prog.funcNamed Tryz.f6.name=some 6 by kernel_rfl).symm.trans hf)|>.symm
 obtain rfl:fn=Tryz.f6:=(abl (Tryz.func6.symm.trans PU)).symm;refine⟨by kernel_rfl,fun j t ht=>?_⟩
 rw[Tryz.params6]at ht;have ht:t=9\/t=3:=by have h0:=ab1 ht;simp at h0;grind
 rcases ht with rfl|rfl
 .exact(show Tryz.prog.wantsStandIn 9=false by kernel_rfl)
 .exact(show Tryz.prog.wantsStandIn 3=false by kernel_rfl)
theorem Cp:Rows.TopGoneUptoCardSaid:=
 Claim7.holds_tied_plain_at .later [] _ _ _ _ E5 (fun _ h=>by cases h) (by kernel_rfl) (fun _ h=>by cases h) topGoneUpto_row_tie rfl ⟨rfl,rfl⟩ (by kernel_rfl) rfl zC (by kernel_rfl)
end Go.Proofs.YthagjdhjmamakaaGreatDoor
