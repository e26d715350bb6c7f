/- The law TopPass, where what it reads is of bulk at most 1048576: whatever the input, it returns true, and the input reads as it did. -/
import Derived.Test.YthagjdhjmamakaaGreatDoorT16
import Derived.Test.YthagjdhjmamakaaGreatDoorT41
import Derived.Test.YthagjdhjmamakaaGreatDoorCards
import Derived.Test.YthagjdhjmamakaaGreatDoorTie
import Derived.WalkKit
import Derived.ProofKit
import Derived.OpenShut
import Derived.Deep.DeepHandedRow
import Derived.JoinedCond
import Derived.KernelRfl
set_option linter.unusedVariables false
set_option linter.unusedSimpArgs false
set_option linter.unnecessarySimpa false
set_option maxRecDepth 100000
set_option maxHeartbeats 64000000
namespace Go.Proofs.YthagjdhjmamakaaGreatDoor
open Go.AM Go.ChangeShapes Go.WideShapes Go.ChangeAt Go.RowKit
theorem EW:ownKnob Tryz.prog.godebug=none:=by kernel_rfl
theorem B4:laidOutB Tryz.prog=true:=by kernel_rfl
theorem jY{H:Type}(d:DataW H):1<=Rows.uptoBulk d:=by
 cases d with
 |lit l=>cases l<;>simp[Rows.uptoBulk]
 |_=>simp[Rows.uptoBulk]
theorem kU{H:Type}:∀l:List (DataW H),gD Rows.uptoBulk l=Rows.uptoBulkAll l
 | []=>by simp[gD,Rows.uptoBulkAll]
 |d::r=>by simp[gD,Rows.uptoBulkAll,kU r]
def B5(H:Type):G2 H where
 f:=Rows.uptoBulk
 str s:=by simp[Rows.uptoBulk]
 lit l:=jY _
 nil:=jY _
 slice a b:=by simp[Rows.uptoBulk,kU]
 agg a:=by simp[Rows.uptoBulk,kU]
def r9:List Sh:=[⟨false,[.i .i64]⟩,⟨false,[.i .i64]⟩]
theorem B6:AE Tryz.prog Tryz.f5.params.toList=some r9:=by kernel_rfl
theorem B7(kZ:List (List Dt))(hf:sN r9 kZ)(hb:Dt.eW kZ<=1048576):ar Tryz.prog 5 (nl r9 kZ) [] fun r _=>r=aA true:=by
 cases hf with|cons h1 hf=>
 cases hf with|cons h2 hf=>
 cases hf;cases h1 with|i _ v1 _ h1=>
 cases h1;cases h2 with|i _ v2 _ h2=>
 cases h2;exact Kn.Mc v1 v2
theorem tw(H:Type)(enc:TypeId×Value->H)(W:World)(au:Nat)(args:Array Value)(ds gs:List (DataW H))(before:List MemPlace)(fK:∀(j:Nat)t v,Tryz.f5.params[j]? =some t->args[j]? =some v->Value.okWide Tryz.prog W .any au t v)(hk:Rows.uptoSmall H (ds++gs)=true)(hW:DataW.Whole enc Tryz.prog Tryz.f5.params.toList Rows.topPassSpec.vars false W args.toList ds gs before):
  Calls Tryz.prog 5 args W fun e W'=>∃v,e= .returned v/\Rows.topPassSpec.post enc Tryz.prog Tryz.f5 false true false false W args v W':=by
 refine l9 (B5 H) B4 Tryz.underlying4 (by kernel_rfl) rfl ?_ B6 (by kernel_rfl) ?_ fK hW
 .intro ds CN
  match ds,CN with
  | [d1,d2],_=>rfl
 .intro kZ hf dj;refine B7 kZ hf (aaC dj ?_);have h1:Rows.uptoBulkAll (ds++gs)<=1048576:=of_decide_eq_true hk;have h2:∀a b:List (DataW H),Rows.uptoBulkAll a<=Rows.uptoBulkAll (a++b):=by
   intro a b
   induction a with
   |nil=>simp[Rows.uptoBulkAll]
   |cons x r ih=>simp only[aby,Rows.uptoBulkAll];omega
  show gD Rows.uptoBulk ds<=1048576;rw[kU];exact aaC (h2 ds gs) h1
def qF(vs:Array Value):Go.Obj->Go.Obj
 | .cells _ t jD=>.cells vs t jD
 |o=>o
def EX:Array Value:= #[.int .u8 128,.int .u8 191,.int .u8 160,.int .u8 191,.int .u8 128,.int .u8 159,.int .u8 144,.int .u8 191,.int .u8 128,.int .u8 143,.int .u8 0,.int .u8 0,.int .u8 0,.int .u8 0,.int .u8 0,.int .u8 0,.int .u8 0,.int .u8 0,.int .u8 0,.int .u8 0,.int .u8 0,.int .u8 0,.int .u8 0,.int .u8 0,.int .u8 0,.int .u8 0,.int .u8 0,.int .u8 0,.int .u8 0,.int .u8 0,.int .u8 0,.int .u8 0]
noncomputable def mB(os:Os):World:=
 {World.holding Tryz.prog os ⟨#[],#[],[]⟩with
  heap:=((World.holding Tryz.prog os ⟨#[],#[],[]⟩).heap.modify 1 (qF (Go.Pinned.utf8FirstZ.map fun n=>Value.int .u8 ((n:Nat):Int)).toArray)).modify 2 (qF EX)}
theorem EY(os:Os):laidMet Tryz.prog Rows.topPassUptoRow.laid ((mB os).forCall (fun _ _=>0) ⟨#[],#[.int .i64 0,.int .i64 0],[]⟩).memory:=
 laidMet_of_run' 8 (by kernel_rfl) (by kernel_rfl)
theorem zw(os:Os){H:Type}(enc:TypeId×Value->H):∃places,DataW.whole enc Tryz.prog ((mB os).forCall (fun _ _=>0) ⟨#[],#[.int .i64 0,.int .i64 0],[]⟩).memory Tryz.f5.params.toList Rows.topPassSpec.vars false (#[.int .i64 0,.int .i64 0]:Array Value).toList 8=some ([.lit (.int .i64 0),.lit (.int .i64 0)],[],places):=
 ⟨[],by kernel_rfl⟩
theorem wE(os:Os)(started:os.Started)(H:Type)(enc:TypeId×Value->H)(F:Stop.Interp):
  ReturnsInHanded {} Tryz.checked os 5 .any ((Rows.OpenSpec.upto Rows.topPassSpec).preRow enc Tryz.prog Tryz.f5 Rows.topPassUptoRow.domain false Rows.topPassUptoRow.laid) (((Rows.OpenSpec.upto Rows.topPassSpec).at F).post enc Tryz.prog Tryz.f5 false true false false):=by
 obtain⟨places,hx⟩:=zw os enc;refine returnsInHanded_of_row (C:=Tryz.checked) (s:=Rows.OpenSpec.upto Rows.topPassSpec) EW started (by as_aux_lemma=>kernel_rfl) Tryz.func5
  (witness_row_at (enc:=enc) (C:=Tryz.checked) false (mB os) #[.int .i64 0,.int .i64 0] rfl (by as_aux_lemma=>kernel_rfl) (by as_aux_lemma=>kernel_rfl) (by as_aux_lemma=>kernel_rfl)
   (OpenSpec.preRow_of_cond 8 hx (by as_aux_lemma=>kernel_rfl) (fun k hk=>by cases hk;as_aux_lemma=>kernel_rfl) (by as_aux_lemma=>kernel_rfl) (EY os))) ?_
 intro W au args ds gs before fK hW _ hk _ _ _ _;exact tw H enc W au args ds gs before fK (hk _ rfl) hW
theorem zx{a b:Bool}(h:a=true)(g:b=true):(a&&b)=true:=by rw[h,g];rfl
theorem wF:joinedFacts Tryz.pinned.checked.prog 5 Tryz.f5 (Rows.OpenSpec.upto Rows.topPassSpec).bare Rows.topPassUptoRow=true:=by
 unfold joinedFacts;repeat' with_reducible refine zx ?_ ?_
 all_goals as_aux_lemma=>kernel_rfl
theorem EZ:Rows.TopPassUptoSaid:=
 OpenClaim.holds_of_cond 5 Tryz.f5 rfl rfl rfl rfl rfl rfl rfl ⟨rfl,rfl,rfl,rfl,rfl⟩ rfl rfl rfl rfl rfl (by as_aux_lemma=>kernel_rfl) Tryz.func5 wF
  (of_decide_eq_true (by as_aux_lemma=>kernel_rfl)) (by unfold Func.isWrapper;first|(rw[if_pos (by as_aux_lemma=>decide+kernel)];kernel_rfl)|(rw[if_neg (by as_aux_lemma=>decide+kernel)];exact⟨rfl,rfl⟩))
  (fun os started H enc _ F=>by rw[OpenClaim.pre_eq_preRow];exact wE os started H enc F)
theorem zy(f:FuncId)(fn:Func)(hf:Tryz.pinned.checked.prog.funcNamed Tryz.f5.name=some f)(PU:Tryz.pinned.checked.prog.funcs[f]? =some fn):
  false=Tryz.pinned.checked.prog.looks []/\∀(j:Nat)t,fn.params[j]? =some t->Tryz.pinned.checked.prog.wantsStandIn t=false:=by
 obtain rfl:f=5:=abl ((show Tryz.prog.funcNamed Tryz.f5.name=some 5 by kernel_rfl).symm.trans hf)|>.symm
 obtain rfl:fn=Tryz.f5:=(abl (Tryz.func5.symm.trans PU)).symm;refine⟨by kernel_rfl,fun j t ht=>?_⟩
 rw[Tryz.params5]at ht;have ht:t=3:=by have h0:=ab1 ht;simp at h0;grind
 subst ht;exact(show Tryz.prog.wantsStandIn 3=false by kernel_rfl)
theorem Co:Rows.TopPassUptoCardSaid:=
 Claim7.holds_tied_plain_at .later [] _ _ _ _ EZ (fun _ h=>by cases h) (by kernel_rfl) (fun _ h=>by cases h) topPassUpto_row_tie rfl ⟨rfl,rfl⟩ (by kernel_rfl) rfl zy (by kernel_rfl)
end Go.Proofs.YthagjdhjmamakaaGreatDoor
