/- The law KernFence, where what it reads is of bulk at most 1048576: whatever the input, it returns true, and the input reads as it did. -/
import Derived.Test.YtojhmadmlnfpcaaGreatDoorK16
import Derived.Test.YtojhmadmlnfpcaaGreatDoorK46
import Derived.Test.YtojhmadmlnfpcaaGreatDoorCards
import Derived.Test.YtojhmadmlnfpcaaGreatDoorTie
import Derived.WalkKit
import Derived.ProofKit
import Derived.OpenShut
import Derived.Deep.DeepHandedRow
import Derived.JoinedCond
import Derived.KernelRfl
set_option linter.unusedVariables false
set_option linter.unusedSimpArgs false
set_option linter.unnecessarySimpa false
set_option maxRecDepth 100000
set_option maxHeartbeats 64000000
namespace Go.Proofs.YtojhmadmlnfpcaaGreatDoor
open Go.AM Go.ChangeShapes Go.WideShapes Go.ChangeAt Go.RowKit
theorem dec_msk(e:List Dt)(hf:ff [.i .i64,.i .i64] e):∃a:gl,True/\e=a.enc:=by
 cases hf with|i _ a _ hf=>cases hf with|i _ b _ hf=>cases hf with|nil=>exact⟨⟨a,b⟩,trivial,rfl⟩
theorem sizeLL_mem:∀{l:List (List Dt)}{e:List Dt},e∈l->Dt.cW e<=Dt.bA l
 | [],e,h=>by simp at h
 |x::r,e,h=>by
  simp only[Dt.bA];rcases aaJ.1 h with rfl|h
  .omega
  .have:=sizeLL_mem h;omega
theorem pols_of{elems:List (List Dt)}(h:∀e,e∈elems->ff [.i .i64,.sl [.i .i64,.i .i64]] e):∃l:List bU,elems=l.map bU.enc/\∀p,p∈l->p.aN.length<=Dt.bA elems:=by
 obtain⟨l,_,he⟩:=dp bU.enc (fun _=>True) (fun e hf=>by
  cases hf with|i _ a _ hf=>cases hf with|sl _ em he hf=>cases hf with|nil=>
  obtain⟨ms,_,hm⟩:=dp gl.enc (fun _=>True) dec_msk he
  subst hm;exact⟨⟨a,ms⟩,trivial,rfl⟩) h
 refine⟨l,he,fun p hp=>?_⟩
 have h1:Dt.cW p.enc<=Dt.bA elems:=sizeLL_mem (by rw[he];exact aay.2 ⟨p,hp,rfl⟩)
 have h2:=Dt.cK (p.aN.map gl.enc) fun e hx=>by obtain⟨s,_,rfl⟩:=aay.1 hx;simp[gl.enc]
 rw[aad]at h2;simp only[bU.enc,Dt.cW,Dt.size]at h1;omega
theorem bys_of{elems:List (List Dt)}(h:∀e,e∈elems->ff [.i .u8] e):∃l:List Int,elems=fM l/\(∀x,x∈l->0<=x/\x<=255)/\l.length<=Dt.bA elems:=by
 obtain⟨l,hl,he⟩:=dp (fun x:Int=>[Dt.val (.int .u8 x)]) (fun x=>0<=x/\x<=255) (fun e hf=>by
  cases hf with|i _ a ha hf=>cases hf with|nil=>exact⟨a,by simpa[Lit.wf,IntKind.min,IntKind.max,IntKind.signed,IntKind.bits]using ha,rfl⟩) h
 refine⟨l,he,hl,?_⟩;have:=Dt.cK elems fun e hx=>(h e hx).ne aG
 rw[he]at this⊢;simpa using this
theorem cls_of{elems:List (List Dt)}(h:∀e,e∈elems->ff [.i .i64,.i .i64,.i .i64,.i .i64,.i .i64,.i .i64,.i .i64,.s,.sl [.i .u8]] e)(hb:Dt.bA elems<=1048576):∃l:List Kn.Cl,elems=l.map Kn.Cl.enc/\Kn.rL l:=by
 obtain⟨l,_,he⟩:=dp Kn.Cl.enc (fun _=>True) (fun e hf=>by
  cases hf with|i _ a1 _ hf=>cases hf with|i _ a2 _ hf=>cases hf with|i _ a3 _ hf=>cases hf with|i _ a4 _ hf=>cases hf with|i _ a5 _ hf=>cases hf with|i _ a6 _ hf=>cases hf with|i _ a7 _ hf=>cases hf with|s x hf=>cases hf with|sl _ em he hf=>cases hf with|nil=>
  obtain⟨d,rfl,-,-⟩:=bys_of he;obtain⟨t,rfl⟩:=bJ.oV x;exact⟨⟨a1,a2,a3,a4,a5,a6,a7,t,d⟩,trivial,rfl⟩) h
 refine⟨l,he,⟨?_,fun c hc=>?_⟩⟩
 .have:=Dt.cK elems fun e hx=>(h e hx).ne aG
  rw[he,aad]at this;rw[he]at hb;omega
 .have h1:Dt.cW c.enc<=Dt.bA elems:=sizeLL_mem (by rw[he];exact aay.2 ⟨c,hc,rfl⟩)
  have h2:=Dt.cK (fM c.data) fun e hx=>by obtain⟨s,_,rfl⟩:=aay.1 hx;simp
  have h3:(fM c.data).length=c.data.length:=by simp[fM]
  rw[h3]at h2;simp only[Kn.Cl.enc,Dt.cW,Dt.size]at h1;omega
theorem ownKernFence:ownKnob Tryz.prog.godebug=none:=by kernel_rfl
theorem laidKernFence:laidOutB Tryz.prog=true:=by kernel_rfl
theorem one_le_bulkKernFence{H:Type}(d:DataW H):1<=Rows.uptoBulk d:=by
 cases d with
 |lit l=>cases l<;>simp[Rows.uptoBulk]
 |_=>simp[Rows.uptoBulk]
theorem wSumKernFence{H:Type}:∀l:List (DataW H),gi Rows.uptoBulk l=Rows.uptoBulkAll l
 | []=>by simp[gi,Rows.uptoBulkAll]
 |d::r=>by simp[gi,Rows.uptoBulkAll,wSumKernFence r]
def bulkKernFence(H:Type):EB H where
 f:=Rows.uptoBulk
 str s:=by simp[Rows.uptoBulk]
 lit l:=one_le_bulkKernFence _
 nil:=one_le_bulkKernFence _
 slice a b:=by simp[Rows.uptoBulk,wSumKernFence]
 agg a:=by simp[Rows.uptoBulk,wSumKernFence]
def shKernFence:List Sh:=[⟨false,[.sl [.i .i64,.sl [.i .i64,.i .i64]]]⟩,⟨false,[.sl [.i .i64,.i .i64,.i .i64,.i .i64,.i .i64,.i .i64,.i .i64,.s,.sl [.i .u8]]]⟩]
theorem shOfKernFence:zV Tryz.prog Tryz.f5.params.toList=some shKernFence:=by kernel_rfl
theorem walkKernFence(jX:List (List Dt))(hf:ra shKernFence jX)(hb:Dt.bA jX<=1048576):ar Tryz.prog 5 (nt shKernFence jX) [] fun r _=>r=ay true:=by
 cases hf with|cons h1 hf=>
 cases hf with|cons h2 hf=>
 cases hf;cases h1 with|sl _ elems1 Ib h1=>
 cases h1;cases h2 with|sl _ elems2 mO h2=>
 cases h2;have jD:Dt.bA elems2<=1048576:=by simp only[Dt.bA,Dt.cW,Dt.size]at hb;omega
 obtain⟨l,rfl,-⟩:=pols_of Ib;obtain⟨cs,rfl,dG⟩:=cls_of mO jD;exact Kn.N2 l cs dG
theorem contractKernFence(H:Type)(enc:TypeId×Value->H)(W:World)(ax:Nat)(args:Array Value)(ds gs:List (DataW H))(before:List MemPlace)(fJ:∀(j:Nat)t v,Tryz.f5.params[j]? =some t->args[j]? =some v->Value.okWide Tryz.prog W .any ax t v)(hk:Rows.uptoSmall H (ds++gs)=true)(hW:DataW.Whole enc Tryz.prog Tryz.f5.params.toList Rows.kernFenceSpec.vars false W args.toList ds gs before):
  Calls Tryz.prog 5 args W fun e W'=>∃v,e= .returned v/\Rows.kernFenceSpec.post enc Tryz.prog Tryz.f5 false true false false W args v W':=by
 refine jY (bulkKernFence H) laidKernFence Tryz.underlying4 (by kernel_rfl) rfl ?_ shOfKernFence (by kernel_rfl) ?_ fJ hW
 .intro ds BJ
  match ds,BJ with
  | [d1,d2],_=>rfl
 .intro jX hf dI;refine walkKernFence jX hf (aa0 dI ?_);have h1:Rows.uptoBulkAll (ds++gs)<=1048576:=of_decide_eq_true hk;have h2:∀a b:List (DataW H),Rows.uptoBulkAll a<=Rows.uptoBulkAll (a++b):=by
   intro a b
   induction a with
   |nil=>simp[Rows.uptoBulkAll]
   |cons x r ih=>simp only[abN,Rows.uptoBulkAll];omega
  show gi Rows.uptoBulk ds<=1048576;rw[wSumKernFence];exact aa0 (h2 ds gs) h1
def layAtKernFence(vs:Array Value):Go.Obj->Go.Obj
 | .cells _ t iU=>.cells vs t iU
 |o=>o
def accKernFence:Array Value:= #[.int .u8 128,.int .u8 191,.int .u8 160,.int .u8 191,.int .u8 128,.int .u8 159,.int .u8 144,.int .u8 191,.int .u8 128,.int .u8 143,.int .u8 0,.int .u8 0,.int .u8 0,.int .u8 0,.int .u8 0,.int .u8 0,.int .u8 0,.int .u8 0,.int .u8 0,.int .u8 0,.int .u8 0,.int .u8 0,.int .u8 0,.int .u8 0,.int .u8 0,.int .u8 0,.int .u8 0,.int .u8 0,.int .u8 0,.int .u8 0,.int .u8 0,.int .u8 0]
noncomputable def worldKernFence(os:Os):World:=
 {World.holding Tryz.prog os ⟨#[],#[],[]⟩with
  heap:=((World.holding Tryz.prog os ⟨#[],#[],[]⟩).heap.modify 1 (layAtKernFence (Go.Pinned.utf8FirstZ.map fun n=>Value.int .u8 ((n:Nat):Int)).toArray)).modify 2 (layAtKernFence accKernFence)}
theorem metKernFence(os:Os):laidMet Tryz.prog Rows.kernFenceUptoRow.laid ((worldKernFence os).forCall (fun _ _=>0) ⟨#[],#[.slice none 0 0,.slice none 0 0],[]⟩).memory:=
 laidMet_of_run' 8 (by kernel_rfl) (by kernel_rfl)
theorem readsKernFence(os:Os){H:Type}(enc:TypeId×Value->H):∃places,DataW.whole enc Tryz.prog ((worldKernFence os).forCall (fun _ _=>0) ⟨#[],#[.slice none 0 0,.slice none 0 0],[]⟩).memory Tryz.f5.params.toList Rows.kernFenceSpec.vars false (#[.slice none 0 0,.slice none 0 0]:Array Value).toList 8=some ([.nil,.nil],[],places):=
 ⟨[],by kernel_rfl⟩
theorem liftedKernFence(os:Os)(started:os.Started)(H:Type)(enc:TypeId×Value->H)(F:Stop.Interp):
  ReturnsInHanded {} Tryz.checked os 5 .any ((Rows.OpenSpec.upto Rows.kernFenceSpec).preRow enc Tryz.prog Tryz.f5 Rows.kernFenceUptoRow.domain false Rows.kernFenceUptoRow.laid) (((Rows.OpenSpec.upto Rows.kernFenceSpec).at F).post enc Tryz.prog Tryz.f5 false true false false):=by
 obtain⟨places,hx⟩:=readsKernFence os enc;refine returnsInHanded_of_row (C:=Tryz.checked) (s:=Rows.OpenSpec.upto Rows.kernFenceSpec) ownKernFence started (by as_aux_lemma=>kernel_rfl) Tryz.func5
  (witness_row_at (enc:=enc) (C:=Tryz.checked) false (worldKernFence os) #[.slice none 0 0,.slice none 0 0] rfl (by as_aux_lemma=>kernel_rfl) (by as_aux_lemma=>kernel_rfl) (by as_aux_lemma=>kernel_rfl)
   (OpenSpec.preRow_of_cond 8 hx (by as_aux_lemma=>kernel_rfl) (fun k hk=>by cases hk;as_aux_lemma=>kernel_rfl) (by as_aux_lemma=>kernel_rfl) (metKernFence os))) ?_
 intro W ax args ds gs before fJ hW _ hk _ _ _ _;exact contractKernFence H enc W ax args ds gs before fJ (hk _ rfl) hW
theorem and_iKernFence{a b:Bool}(h:a=true)(g:b=true):(a&&b)=true:=by rw[h,g];rfl
theorem closedKernFence:joinedFacts Tryz.pinned.checked.prog 5 Tryz.f5 (Rows.OpenSpec.upto Rows.kernFenceSpec).bare Rows.kernFenceUptoRow=true:=by
 unfold joinedFacts;repeat' with_reducible refine and_iKernFence ?_ ?_
 all_goals as_aux_lemma=>kernel_rfl
theorem rowKernFence:Rows.KernFenceUptoSaid:=
 OpenClaim.holds_of_cond 5 Tryz.f5 rfl rfl rfl rfl rfl rfl rfl ⟨rfl,rfl,rfl,rfl,rfl⟩ rfl rfl rfl rfl rfl (by as_aux_lemma=>kernel_rfl) Tryz.func5 closedKernFence
  (of_decide_eq_true (by as_aux_lemma=>kernel_rfl)) (by unfold Func.isWrapper;first|(rw[if_pos (by as_aux_lemma=>decide+kernel)];kernel_rfl)|(rw[if_neg (by as_aux_lemma=>decide+kernel)];exact⟨rfl,rfl⟩))
  (fun os started H enc _ F=>by rw[OpenClaim.pre_eq_preRow];exact liftedKernFence os started H enc F)
theorem plainKernFence(f:FuncId)(fn:Func)(hf:Tryz.pinned.checked.prog.funcNamed Tryz.f5.name=some f)(Ir:Tryz.pinned.checked.prog.funcs[f]? =some fn):
  false=Tryz.pinned.checked.prog.looks []/\∀(j:Nat)t,fn.params[j]? =some t->Tryz.pinned.checked.prog.wantsStandIn t=false:=by
 obtain rfl:f=5:=abo ((show Tryz.prog.funcNamed Tryz.f5.name=some 5 by kernel_rfl).symm.trans hf)|>.symm
 obtain rfl:fn=Tryz.f5:=(abo (Tryz.func5.symm.trans Ir)).symm;refine⟨by kernel_rfl,fun j t ht=>?_⟩
 rw[Tryz.params5]at ht;have ht:t=22\/t=23:=by have h0:=abX ht;simp at h0;grind
 rcases ht with rfl|rfl
 .exact(show Tryz.prog.wantsStandIn 22=false by kernel_rfl)
 .exact(show Tryz.prog.wantsStandIn 23=false by kernel_rfl)
theorem kernFenceUptoCardSaid:Rows.KernFenceUptoCardSaid:=
 Claim7.holds_tied_plain_at .later [] _ _ _ _ rowKernFence (fun _ h=>by cases h) (by kernel_rfl) (fun _ h=>by cases h) kernFenceUpto_row_tie rfl ⟨rfl,rfl⟩ (by kernel_rfl) rfl plainKernFence (by kernel_rfl)
end Go.Proofs.YtojhmadmlnfpcaaGreatDoor
