/- The law TopJail, where what it reads is of bulk at most 1048576: whatever the input, it returns true, and the input reads as it did. -/
import Derived.Test.YtodckkkbiidffaaGreatDoorT16
import Derived.Test.YtodckkkbiidffaaGreatDoorT39
import Derived.Test.YtodckkkbiidffaaGreatDoorCards
import Derived.Test.YtodckkkbiidffaaGreatDoorTie
import Derived.WalkKit
import Derived.ProofKit
import Derived.OpenShut
import Derived.Deep.DeepHandedRow
import Derived.JoinedCond
import Derived.KernelRfl
set_option linter.unusedVariables false
set_option linter.unusedSimpArgs false
set_option linter.unnecessarySimpa false
set_option maxRecDepth 100000
set_option maxHeartbeats 64000000
namespace Go.Proofs.YtodckkkbiidffaaGreatDoor
open Go.AM Go.ChangeShapes Go.WideShapes Go.ChangeAt Go.RowKit
theorem DJ:ownKnob Tryz.prog.godebug=none:=by kernel_rfl
theorem A0:laidOutB Tryz.prog=true:=by kernel_rfl
theorem jO{H:Type}(d:DataW H):1<=Rows.uptoBulk d:=by
 cases d with
 |lit l=>cases l<;>simp[Rows.uptoBulk]
 |_=>simp[Rows.uptoBulk]
theorem kG{H:Type}:∀l:List (DataW H),jS Rows.uptoBulk l=Rows.uptoBulkAll l
 | []=>by simp[jS,Rows.uptoBulkAll]
 |d::r=>by simp[jS,Rows.uptoBulkAll,kG r]
def A2(H:Type):Lx H where
 f:=Rows.uptoBulk
 str s:=by simp[Rows.uptoBulk]
 lit l:=jO _
 nil:=jO _
 slice a b:=by simp[Rows.uptoBulk,kG]
 agg a:=by simp[Rows.uptoBulk,kG]
def rq:List Sh:=[⟨false,[.s]⟩,⟨false,[.s]⟩,⟨false,[.i .i64]⟩]
theorem A3:FJ Tryz.prog Tryz.f3.params.toList=some rq:=by kernel_rfl
theorem A4(ot:List (List Dt))(hf:v8 rq ot)(hb:Dt.fo ot<=1048576):aq Tryz.prog 3 (pl rq ot) [] fun r _=>r=ay true:=by
 cases hf with|cons h1 hf=>
 cases hf with|cons h2 hf=>
 cases hf with|cons h3 hf=>
 cases hf;cases h1 with|s v1 h1=>
 cases h1;cases h2 with|s v2 h2=>
 cases h2;cases h3 with|i _ v3 _ h3=>
 cases h3;have Ql:v1.size<=4194304:=by simp only[Dt.fo,Dt.gj,Dt.size]at hb;omega
 have KQ:v2.size<=4194304:=by simp only[Dt.fo,Dt.gj,Dt.size]at hb;omega
 exact Kn.KL v1 Ql v2 KQ v3
theorem sF(H:Type)(enc:TypeId×Value->H)(W:World)(au:Nat)(args:Array Value)(ds gs:List (DataW H))(before:List MemPlace)(iz:∀(j:Nat)t v,Tryz.f3.params[j]? =some t->args[j]? =some v->Value.okWide Tryz.prog W .any au t v)(hk:Rows.uptoSmall H (ds++gs)=true)(hW:DataW.Whole enc Tryz.prog Tryz.f3.params.toList Rows.topJailSpec.vars false W args.toList ds gs before):
  Calls Tryz.prog 3 args W fun e W'=>∃v,e= .returned v/\Rows.topJailSpec.post enc Tryz.prog Tryz.f3 false true false false W args v W':=by
 refine xA (A2 H) A0 Tryz.underlying4 (by kernel_rfl) rfl ?_ A3 (by kernel_rfl) ?_ iz hW
 .intro ds HV
  match ds,HV with
  | [d1,d2,d3],_=>rfl
 .intro ot hf dn;refine A4 ot hf (aaP dn ?_);have h1:Rows.uptoBulkAll (ds++gs)<=1048576:=of_decide_eq_true hk;have h2:∀a b:List (DataW H),Rows.uptoBulkAll a<=Rows.uptoBulkAll (a++b):=by
   intro a b
   induction a with
   |nil=>simp[Rows.uptoBulkAll]
   |cons x r ih=>simp only[ab5,Rows.uptoBulkAll];omega
  show jS Rows.uptoBulk ds<=1048576;rw[kG];exact aaP (h2 ds gs) h1
def pW(vs:Array Value):Go.Obj->Go.Obj
 | .cells _ t nZ=>.cells vs t nZ
 |o=>o
def DK:Array Value:= #[.int .u8 128,.int .u8 191,.int .u8 160,.int .u8 191,.int .u8 128,.int .u8 159,.int .u8 144,.int .u8 191,.int .u8 128,.int .u8 143,.int .u8 0,.int .u8 0,.int .u8 0,.int .u8 0,.int .u8 0,.int .u8 0,.int .u8 0,.int .u8 0,.int .u8 0,.int .u8 0,.int .u8 0,.int .u8 0,.int .u8 0,.int .u8 0,.int .u8 0,.int .u8 0,.int .u8 0,.int .u8 0,.int .u8 0,.int .u8 0,.int .u8 0,.int .u8 0]
noncomputable def l3(os:Os):World:=
 {World.holding Tryz.prog os ⟨#[],#[],[]⟩with
  heap:=((World.holding Tryz.prog os ⟨#[],#[],[]⟩).heap.modify 1 (pW (Go.Pinned.utf8FirstZ.map fun n=>Value.int .u8 ((n:Nat):Int)).toArray)).modify 2 (pW DK)}
theorem DL(os:Os):laidMet Tryz.prog Rows.topJailUptoRow.laid ((l3 os).forCall (fun _ _=>0) ⟨#[],#[.string ⟨#[]⟩,.string ⟨#[]⟩,.int .i64 0],[]⟩).memory:=
 laidMet_of_run' 8 (by kernel_rfl) (by kernel_rfl)
theorem yD(os:Os){H:Type}(enc:TypeId×Value->H):∃places,DataW.whole enc Tryz.prog ((l3 os).forCall (fun _ _=>0) ⟨#[],#[.string ⟨#[]⟩,.string ⟨#[]⟩,.int .i64 0],[]⟩).memory Tryz.f3.params.toList Rows.topJailSpec.vars false (#[.string ⟨#[]⟩,.string ⟨#[]⟩,.int .i64 0]:Array Value).toList 8=some ([.lit (.string []),.lit (.string []),.lit (.int .i64 0)],[],places):=
 ⟨[],by kernel_rfl⟩
theorem vz(os:Os)(started:os.Started)(H:Type)(enc:TypeId×Value->H)(F:Stop.Interp):
  ReturnsInHanded {} Tryz.checked os 3 .any ((Rows.OpenSpec.upto Rows.topJailSpec).preRow enc Tryz.prog Tryz.f3 Rows.topJailUptoRow.domain false Rows.topJailUptoRow.laid) (((Rows.OpenSpec.upto Rows.topJailSpec).at F).post enc Tryz.prog Tryz.f3 false true false false):=by
 obtain⟨places,hx⟩:=yD os enc;refine returnsInHanded_of_row (C:=Tryz.checked) (s:=Rows.OpenSpec.upto Rows.topJailSpec) DJ started (by as_aux_lemma=>kernel_rfl) Tryz.func3
  (witness_row_at (enc:=enc) (C:=Tryz.checked) false (l3 os) #[.string ⟨#[]⟩,.string ⟨#[]⟩,.int .i64 0] rfl (by as_aux_lemma=>kernel_rfl) (by as_aux_lemma=>kernel_rfl) (by as_aux_lemma=>kernel_rfl)
   (OpenSpec.preRow_of_cond 8 hx (by as_aux_lemma=>kernel_rfl) (fun k hk=>by cases hk;as_aux_lemma=>kernel_rfl) (by as_aux_lemma=>kernel_rfl) (DL os))) ?_
 intro W au args ds gs before iz hW _ hk _ _ _ _;exact sF H enc W au args ds gs before iz (hk _ rfl) hW
theorem yE{a b:Bool}(h:a=true)(g:b=true):(a&&b)=true:=by rw[h,g];rfl
theorem vA:joinedFacts Tryz.pinned.checked.prog 3 Tryz.f3 (Rows.OpenSpec.upto Rows.topJailSpec).bare Rows.topJailUptoRow=true:=by
 unfold joinedFacts;repeat' with_reducible refine yE ?_ ?_
 all_goals as_aux_lemma=>kernel_rfl
theorem DM:Rows.TopJailUptoSaid:=
 OpenClaim.holds_of_cond 3 Tryz.f3 rfl rfl rfl rfl rfl rfl rfl ⟨rfl,rfl,rfl,rfl,rfl⟩ rfl rfl rfl rfl rfl (by as_aux_lemma=>kernel_rfl) Tryz.func3 vA
  (of_decide_eq_true (by as_aux_lemma=>kernel_rfl)) (by unfold Func.isWrapper;first|(rw[if_pos (by as_aux_lemma=>decide+kernel)];kernel_rfl)|(rw[if_neg (by as_aux_lemma=>decide+kernel)];exact⟨rfl,rfl⟩))
  (fun os started H enc _ F=>by rw[OpenClaim.pre_eq_preRow];exact vz os started H enc F)
theorem yF(f:FuncId)(fn:Func)(hf:Tryz.pinned.checked.prog.funcNamed Tryz.f3.name=some f)(U1:Tryz.pinned.checked.prog.funcs[f]? =some fn):
  false=Tryz.pinned.checked.prog.looks []/\∀(j:Nat)t,fn.params[j]? =some t->Tryz.pinned.checked.prog.wantsStandIn t=false:=by
 obtain rfl:f=3:=ace ((show Tryz.prog.funcNamed Tryz.f3.name=some 3 by kernel_rfl).symm.trans hf)|>.symm
 obtain rfl:fn=Tryz.f3:=(ace (Tryz.func3.symm.trans U1)).symm;refine⟨by kernel_rfl,fun j t ht=>?_⟩
 rw[Tryz.params3]at ht;have ht:t=9\/t=3:=by have h0:=Array.mem_of_getElem? ht;simp at h0;grind
 rcases ht with rfl|rfl
 .exact(show Tryz.prog.wantsStandIn 9=false by kernel_rfl)
 .exact(show Tryz.prog.wantsStandIn 3=false by kernel_rfl)
theorem Bi:Rows.TopJailUptoCardSaid:=
 Claim7.holds_tied_plain_at .later [] _ _ _ _ DM (fun _ h=>by cases h) (by kernel_rfl) (fun _ h=>by cases h) topJailUpto_row_tie rfl ⟨rfl,rfl⟩ (by kernel_rfl) rfl yF (by kernel_rfl)
end Go.Proofs.YtodckkkbiidffaaGreatDoor
