/- The law FenceHolds, where what it reads is of bulk at most 1048576: whatever the input, it returns true, and the input reads as it did. -/
import Derived.Test.YtllkfpggoigbaaaGreatDoorS15
import Derived.Test.YtllkfpggoigbaaaGreatDoorS35
import Derived.Test.YtllkfpggoigbaaaGreatDoorCards
import Derived.Test.YtllkfpggoigbaaaGreatDoorTie
import Derived.WalkKit
import Derived.ProofKit
import Derived.OpenShut
import Derived.Deep.DeepHandedRow
import Derived.JoinedCond
import Derived.KernelRfl
set_option linter.unusedVariables false
set_option linter.unusedSimpArgs false
set_option linter.unnecessarySimpa false
set_option maxRecDepth 100000
set_option maxHeartbeats 0
namespace Go.Proofs.YtllkfpggoigbaaaGreatDoor
open Proofs.Tryz
open Go.AM Go.ChangeShapes Go.WideShapes Go.ChangeAt Go.RowKit
theorem zl:∀{l:List (List Dt)}{e:List Dt},e∈l->Dt.gH e<=Dt.eA l
 | [],e,h=>by simp at h
 |x::r,e,h=>by
  simp only[Dt.eA];rcases abI.1 h with rfl|h
  .omega
  .have:=zl h;omega
theorem QZ{elems:List (List Dt)}(h:∀e,e∈elems->jF [.i .u8] e):∃l:List Int,elems=eX l/\(∀x,x∈l->0<=x/\x<=255)/\l.length<=Dt.eA elems:=by
 obtain⟨l,hl,he⟩:=uw (λx:Int=>[Dt.val (.int .u8 x)]) (λx=>0<=x/\x<=255) (λe hf=>by
  cases hf with|i _ a ha hf=>cases hf with|nil=>exact⟨a,by simpa[Lit.wf,IntKind.min,IntKind.max,IntKind.signed,IntKind.bits]using ha,rfl⟩) h
 refine⟨l,he,hl,?_⟩;have:=Dt.oG elems λe hx=>(h e hx).ne aD
 rw[he]at this|-;simpa using this
theorem XW{elems:List (List Dt)}(h:∀e,e∈elems->jF [.i .i64,.i .i64,.i .i64,.i .i64,.i .i64,.i .i64,.i .i64,.s,.sl [.i .u8]] e)(hb:Dt.eA elems<=1048576):∃l:List Kn.Cl,elems=l.map Kn.Cl.enc/\Kn.Xx l:=by
 obtain⟨l,_,he⟩:=uw Kn.Cl.enc (λ_=>True) (λe hf=>by
  cases hf with|i _ a1 _ hf=>cases hf with|i _ a2 _ hf=>cases hf with|i _ a3 _ hf=>cases hf with|i _ a4 _ hf=>cases hf with|i _ a5 _ hf=>cases hf with|i _ a6 _ hf=>cases hf with|i _ a7 _ hf=>cases hf with|s x hf=>cases hf with|sl _ em he hf=>cases hf with|nil=>
  obtain⟨d,rfl,-,-⟩:=QZ he;obtain⟨t,rfl⟩:=bT.Cp x;exact⟨⟨a1,a2,a3,a4,a5,a6,a7,t,d⟩,trivial,rfl⟩) h
 refine⟨l,he,⟨?_,λc hc=>?_⟩⟩
 .have:=Dt.oG elems λe hx=>(h e hx).ne aD
  rw[he,O9]at this;rw[he]at hb;omega
 .have h1:Dt.gH c.enc<=Dt.eA elems:=zl (by rw[he];exact abl.2 ⟨c,hc,rfl⟩)
  have h2:=Dt.oG (eX c.data) λe hx=>by obtain⟨s,_,rfl⟩:=abl.1 hx;simp
  have h3:(eX c.data).length=c.data.length:=by simp[eX]
  rw[h3]at h2;simp only[Kn.Cl.enc,Dt.gH,Dt.size]at h1;omega
theorem Ab:ownKnob prog.godebug=none:=by kernel_rfl
theorem zm:laidOutB prog=true:=by kernel_rfl
theorem jO{H:Type}(d:DataW H):1<=Rows.uptoBulk d:=by
 cases d with
 |lit l=>cases l<;>simp[Rows.uptoBulk]
 |_=>simp[Rows.uptoBulk]
theorem jA{H:Type}:∀l:List (DataW H),mE Rows.uptoBulk l=Rows.uptoBulkAll l
 | []=>by simp[mE,Rows.uptoBulkAll]
 |d::r=>by simp[mE,Rows.uptoBulkAll,jA r]
def zn(H:Type):R2 H where
 f:=Rows.uptoBulk
 str s:=by simp[Rows.uptoBulk]
 lit l:=jO _
 nil:=jO _
 slice a b:=by simp[Rows.uptoBulk,jA]
 agg a:=by simp[Rows.uptoBulk,jA]
def oX:List Sh:=[⟨false,[.sl [.i .u8]]⟩,⟨false,[.sl [.i .i64,.i .i64,.i .i64,.i .i64,.i .i64,.i .i64,.i .i64,.s,.sl [.i .u8]]]⟩]
theorem zo:KT prog Tryz.f3.params.toList=some oX:=by kernel_rfl
theorem zp(rN:List (List Dt))(hf:AG oX rN)(hb:Dt.eA rN<=1048576):ap prog 3 (sY oX rN) [] λr _=>r=aq true:=by
 cases hf with|cons h1 hf=>
 cases hf with|cons h2 hf=>
 cases hf;cases h1 with|sl _ af6 F0 h1=>
 cases h1;cases h2 with|sl _ XX pb h2=>
 cases h2;have kG:Dt.eA XX<=1048576:=by simp only[Dt.eA,Dt.gH,Dt.size]at hb;omega
 obtain⟨v1,rfl,Dp,rH⟩:=QZ F0;obtain⟨cs,rfl,fA⟩:=XW pb kG;exact Kn.Aa v1 Dp cs fA
theorem si(H:Type)(enc:TypeId×Value->H)(W:World)(aB:Nat)(args:Array Value)(ds gs:List (DataW H))(before:List MemPlace)(kH:∀(j:Nat)t v,Tryz.f3.params[j]? =some t->args[j]? =some v->Value.okWide prog W .any aB t v)(hk:Rows.uptoSmall H (ds++gs)=true)(hW:DataW.Whole enc prog Tryz.f3.params.toList Rows.fenceHoldsSpec.vars false W args.toList ds gs before):
  Calls prog 3 args W λe W'=>∃v,e= .returned v/\Rows.fenceHoldsSpec.post enc prog Tryz.f3 false true false false W args v W':=by
 refine BY (zn H) zm underlying4 (by kernel_rfl) rfl ?_ zo (by kernel_rfl) ?_ kH hW
 .intro ds F3
  match ds,F3 with
  | [d1,d2],_=>rfl
 .intro rN hf dQ;refine zp rN hf (abJ dQ ?_);have h1:Rows.uptoBulkAll (ds++gs)<=1048576:=of_decide_eq_true hk;have h2:∀a b:List (DataW H),Rows.uptoBulkAll a<=Rows.uptoBulkAll (a++b):=by
   intro a b
   induction a with
   |nil=>simp[Rows.uptoBulkAll]
   |cons x r ih=>simp only[ad8,Rows.uptoBulkAll];omega
  show mE Rows.uptoBulk ds<=1048576;rw[jA];exact abJ (h2 ds gs) h1
def pa(vs:Array Value):Go.Obj->Go.Obj
 | .cells _ t ry=>.cells vs t ry
 |o=>o
def Ac:Array Value:= #[.int .u8 128,.int .u8 191,.int .u8 160,.int .u8 191,.int .u8 128,.int .u8 159,.int .u8 144,.int .u8 191,.int .u8 128,.int .u8 143,.int .u8 0,.int .u8 0,.int .u8 0,.int .u8 0,.int .u8 0,.int .u8 0,.int .u8 0,.int .u8 0,.int .u8 0,.int .u8 0,.int .u8 0,.int .u8 0,.int .u8 0,.int .u8 0,.int .u8 0,.int .u8 0,.int .u8 0,.int .u8 0,.int .u8 0,.int .u8 0,.int .u8 0,.int .u8 0]
noncomputable def kX(os:Os):World:=
 {World.holding prog os ⟨#[],#[],[]⟩with
  heap:=((World.holding prog os ⟨#[],#[],[]⟩).heap.modify 1 (pa (Go.Pinned.utf8FirstZ.map λn=>Value.int .u8 ((n:Nat):Int)).toArray)).modify 2 (pa Ac)}
theorem Ad(os:Os):laidMet prog Rows.fenceHoldsUptoRow.laid ((kX os).forCall (λ_ _=>0) ⟨#[],#[.slice none 0 0,.slice none 0 0],[]⟩).memory:=
 laidMet_of_run' 8 (by kernel_rfl) (by kernel_rfl)
theorem wC(os:Os){H:Type}(enc:TypeId×Value->H):∃places,DataW.whole enc prog ((kX os).forCall (λ_ _=>0) ⟨#[],#[.slice none 0 0,.slice none 0 0],[]⟩).memory Tryz.f3.params.toList Rows.fenceHoldsSpec.vars false (#[.slice none 0 0,.slice none 0 0]:Array Value).toList 8=some ([.nil,.nil],[],places):=
 ⟨[],by kernel_rfl⟩
theorem u9(os:Os)(started:os.Started)(H:Type)(enc:TypeId×Value->H)(F:Stop.Interp):
  ReturnsInHanded {} Tryz.checked os 3 .any ((Rows.OpenSpec.upto Rows.fenceHoldsSpec).preRow enc prog Tryz.f3 Rows.fenceHoldsUptoRow.domain false Rows.fenceHoldsUptoRow.laid) (((Rows.OpenSpec.upto Rows.fenceHoldsSpec).at F).post enc prog Tryz.f3 false true false false):=by
 obtain⟨places,hx⟩:=wC os enc;refine returnsInHanded_of_row (C:=Tryz.checked) (s:=Rows.OpenSpec.upto Rows.fenceHoldsSpec) Ab started (by as_aux_lemma=>kernel_rfl) func3
  (witness_row_at (enc:=enc) (C:=Tryz.checked) false (kX os) #[.slice none 0 0,.slice none 0 0] rfl (by as_aux_lemma=>kernel_rfl) (by as_aux_lemma=>kernel_rfl) (by as_aux_lemma=>kernel_rfl)
   (OpenSpec.preRow_of_cond 8 hx (by as_aux_lemma=>kernel_rfl) (λk hk=>by cases hk;as_aux_lemma=>kernel_rfl) (by as_aux_lemma=>kernel_rfl) (Ad os))) ?_
 intro W aB args ds gs before kH hW _ hk _ _ _ _;exact si H enc W aB args ds gs before kH (hk _ rfl) hW
theorem wD{a b:Bool}(h:a=true)(g:b=true):(a&&b)=true:=by rw[h,g];rfl
theorem va:joinedFacts Tryz.pinned.checked.prog 3 Tryz.f3 (Rows.OpenSpec.upto Rows.fenceHoldsSpec).bare Rows.fenceHoldsUptoRow=true:=by
 unfold joinedFacts;repeat' with_reducible refine wD ?_ ?_
 all_goals as_aux_lemma=>kernel_rfl
theorem Ae:Rows.FenceHoldsUptoSaid:=
 OpenClaim.holds_of_cond 3 Tryz.f3 rfl rfl rfl rfl rfl rfl rfl ⟨rfl,rfl,rfl,rfl,rfl⟩ rfl rfl rfl rfl rfl (by as_aux_lemma=>kernel_rfl) func3 va
  (of_decide_eq_true (by as_aux_lemma=>kernel_rfl)) (by unfold Func.isWrapper;first|(rw[if_pos (by as_aux_lemma=>decide+kernel)];kernel_rfl)|(rw[if_neg (by as_aux_lemma=>decide+kernel)];exact⟨rfl,rfl⟩))
  (λos started H enc _ F=>by rw[OpenClaim.pre_eq_preRow];exact u9 os started H enc F)
theorem wE(f:FuncId)(fn:Func)(hf:Tryz.pinned.checked.prog.funcNamed Tryz.f3.name=some f)(X9:Tryz.pinned.checked.prog.funcs[f]? =some fn):
  false=Tryz.pinned.checked.prog.looks []/\∀(j:Nat)t,fn.params[j]? =some t->Tryz.pinned.checked.prog.wantsStandIn t=false:=by
 obtain rfl:f=3:=ac3 ((show prog.funcNamed Tryz.f3.name=some 3 by kernel_rfl).symm.trans hf)|>.symm
 obtain rfl:fn=Tryz.f3:=(ac3 (func3.symm.trans X9)).symm;refine⟨by kernel_rfl,λj t ht=>?_⟩
 rw[params3]at ht;have ht:t=22\/t=23:=by have h0:=Array.mem_of_getElem? ht;simp at h0;grind
 rcases ht with rfl|rfl
 .exact(show prog.wantsStandIn 22=false by kernel_rfl)
 .exact(show prog.wantsStandIn 23=false by kernel_rfl)
theorem CX:Rows.FenceHoldsUptoCardSaid:=
 Claim7.holds_tied_plain_at .later [] _ _ _ _ Ae (λ_ h=>by cases h) (by kernel_rfl) (λ_ h=>by cases h) fenceHoldsUpto_row_tie rfl ⟨rfl,rfl⟩ (by kernel_rfl) rfl wE (by kernel_rfl)
end Go.Proofs.YtllkfpggoigbaaaGreatDoor
