/- The law GhostAll, where what it reads is of bulk at most 1048576: whatever the input, it returns true, and the input reads as it did. -/
import Derived.Test.YtodckkkbiidffaaGreatDoorJ11
import Derived.Test.YtodckkkbiidffaaGreatDoorJ16
import Derived.Test.YtodckkkbiidffaaGreatDoorCards
import Derived.Test.YtodckkkbiidffaaGreatDoorTie
import Derived.WalkKit
import Derived.ProofKit
import Derived.OpenShut
import Derived.Deep.DeepHandedRow
import Derived.JoinedCond
import Derived.KernelRfl
set_option linter.unusedVariables false
set_option linter.unusedSimpArgs false
set_option maxRecDepth 100000
set_option maxHeartbeats 0
namespace Go.Proofs.YtodckkkbiidffaaGreatDoor
open Proofs.Tryz
open Go.AM Go.ChangeShapes Go.WideShapes Go.ChangeAt Go.RowKit
theorem Sx(e:List Dt)(hf:iP [.i .i64,.i .i64] e):∃a:lR,True/\e=a.enc:=by
 cases hf with|i _ a _ hf=>cases hf with|i _ b _ hf=>cases hf with|nil=>exact⟨⟨a,b⟩,trivial,rfl⟩
theorem rH:∀{l:List (List Dt)}{e:List Dt},e∈l->Dt.fU e<=Dt.dO l
 | [],e,h=>by simp at h
 |x::r,e,h=>by
  simp only[Dt.dO];rcases aaL.1 h with rfl|h
  .omega
  .have:=rH h;omega
theorem Sy{elems:List (List Dt)}(h:∀e,e∈elems->iP [.i .i64,.sl [.i .i64,.i .i64]] e):∃l:List cU,elems=l.map cU.enc/\∀p,p∈l->p.bo.length<=Dt.dO elems:=by
 obtain⟨l,_,he⟩:=ni cU.enc (λ_=>True) (λe hf=>by
  cases hf with|i _ a _ hf=>cases hf with|sl _ em he hf=>cases hf with|nil=>
  obtain⟨ms,_,hm⟩:=ni lR.enc (λ_=>True) Sx he
  subst hm;exact⟨⟨a,ms⟩,trivial,rfl⟩) h
 refine⟨l,he,λp hp=>?_⟩
 have h1:Dt.fU p.enc<=Dt.dO elems:=rH (by rw[he];exact aaz.2 ⟨p,hp,rfl⟩)
 have h2:=Dt.lB (p.bo.map lR.enc) λe hx=>by obtain⟨s,_,rfl⟩:=aaz.1 hx;simp[lR.enc]
 rw[N7]at h2;simp only[cU.enc,Dt.fU,Dt.size]at h1;omega
theorem VL{elems:List (List Dt)}(h:∀e,e∈elems->iP [.i .u8] e):∃l:List Int,elems=jv l/\(∀x,x∈l->0<=x/\x<=255)/\l.length<=Dt.dO elems:=by
 obtain⟨l,hl,he⟩:=ni (λx:Int=>[Dt.val (.int .u8 x)]) (λx=>0<=x/\x<=255) (λe hf=>by
  cases hf with|i _ a ha hf=>cases hf with|nil=>exact⟨a,by simpa[Lit.wf,IntKind.min,IntKind.max,IntKind.signed,IntKind.bits]using ha,rfl⟩) h
 refine⟨l,he,hl,?_⟩;have:=Dt.lB elems λe hx=>(h e hx).ne aC
 rw[he]at this|-;simpa using this
theorem VM{elems:List (List Dt)}(h:∀e,e∈elems->iP [.i .i64,.i .i64,.i .i64,.i .i64,.i .i64,.i .i64,.i .i64,.s,.sl [.i .u8]] e)(hb:Dt.dO elems<=1048576):∃l:List Kn.Cl,elems=l.map Kn.Cl.enc/\Kn.Y8 l:=by
 obtain⟨l,_,he⟩:=ni Kn.Cl.enc (λ_=>True) (λe hf=>by
  cases hf with|i _ a1 _ hf=>cases hf with|i _ a2 _ hf=>cases hf with|i _ a3 _ hf=>cases hf with|i _ a4 _ hf=>cases hf with|i _ a5 _ hf=>cases hf with|i _ a6 _ hf=>cases hf with|i _ a7 _ hf=>cases hf with|s x hf=>cases hf with|sl _ em he hf=>cases hf with|nil=>
  obtain⟨d,rfl,-,-⟩:=VL he;obtain⟨t,rfl⟩:=bO.BA x;exact⟨⟨a1,a2,a3,a4,a5,a6,a7,t,d⟩,trivial,rfl⟩) h
 refine⟨l,he,⟨?_,λc hc=>?_⟩⟩
 .have:=Dt.lB elems λe hx=>(h e hx).ne aC
  rw[he,N7]at this;rw[he]at hb;omega
 .have h1:Dt.fU c.enc<=Dt.dO elems:=rH (by rw[he];exact aaz.2 ⟨c,hc,rfl⟩)
  have h2:=Dt.lB (jv c.data) λe hx=>by obtain⟨s,_,rfl⟩:=aaz.1 hx;simp
  have h3:(jv c.data).length=c.data.length:=by simp[jv]
  rw[h3]at h2;simp only[Kn.Cl.enc,Dt.fU,Dt.size]at h1;omega
theorem EG:ownKnob prog.godebug=none:=by kernel_rfl
theorem Cj:laidOutB prog=true:=by kernel_rfl
theorem kO{H:Type}(d:DataW H):1<=Rows.uptoBulk d:=by
 cases d with
 |lit l=>cases l<;>simp[Rows.uptoBulk]
 |_=>simp[Rows.uptoBulk]
theorem k9{H:Type}:∀l:List (DataW H),l8 Rows.uptoBulk l=Rows.uptoBulkAll l
 | []=>by simp[l8,Rows.uptoBulkAll]
 |d::r=>by simp[l8,Rows.uptoBulkAll,k9 r]
def Ck(H:Type):QQ H where
 f:=Rows.uptoBulk
 str s:=by simp[Rows.uptoBulk]
 lit l:=kO _
 nil:=kO _
 slice a b:=by simp[Rows.uptoBulk,k9]
 agg a:=by simp[Rows.uptoBulk,k9]
def rI:List Sh:=[⟨false,[.sl [.i .i64,.sl [.i .i64,.i .i64]]]⟩,⟨false,[.sl [.i .i64,.i .i64,.i .i64,.i .i64,.i .i64,.i .i64,.i .i64,.s,.sl [.i .u8]]]⟩]
theorem Cm:JK prog Tryz.f6.params.toList=some rI:=by kernel_rfl
theorem Cn(ra:List (List Dt))(hf:zL rI ra)(hb:Dt.dO ra<=1048576):aq prog 6 (su rI ra) [] λr _=>r=aF true:=by
 cases hf with|cons h1 hf=>
 cases hf with|cons h2 hf=>
 cases hf;cases h1 with|sl _ ada Qp h1=>
 cases h1;cases h2 with|sl _ VN kK h2=>
 cases h2;have fK:Dt.dO VN<=1048576:=by simp only[Dt.dO,Dt.fU,Dt.size]at hb;omega
 obtain⟨l,rfl,-⟩:=Sy Qp;obtain⟨cs,rfl,eL⟩:=VM kK fK;exact Kn.Sw l cs eL
theorem uP(H:Type)(enc:TypeId×Value->H)(W:World)(ar:Nat)(args:Array Value)(ds gs:List (DataW H))(before:List MemPlace)(j7:∀(j:Nat)t v,Tryz.f6.params[j]? =some t->args[j]? =some v->Value.okWide prog W .any ar t v)(hk:Rows.uptoSmall H (ds++gs)=true)(hW:DataW.Whole enc prog Tryz.f6.params.toList Rows.ghostAllSpec.vars false W args.toList ds gs before):
  Calls prog 6 args W λe W'=>∃v,e= .returned v/\Rows.ghostAllSpec.post enc prog Tryz.f6 false true false false W args v W':=by
 refine A7 (Ck H) Cj underlying4 (by kernel_rfl) rfl ?_ Cm (by kernel_rfl) ?_ j7 hW
 .intro ds zy
  match ds,zy with
  | [d1,d2],_=>rfl
 .intro ra hf dq;refine Cn ra hf (abF dq ?_);have h1:Rows.uptoBulkAll (ds++gs)<=1048576:=of_decide_eq_true hk;have h2:∀a b:List (DataW H),Rows.uptoBulkAll a<=Rows.uptoBulkAll (a++b):=by
   intro a b
   induction a with
   |nil=>simp[Rows.uptoBulkAll]
   |cons x r ih=>simp only[ad5,Rows.uptoBulkAll];omega
  show l8 Rows.uptoBulk ds<=1048576;rw[k9];exact abF (h2 ds gs) h1
def qI(vs:Array Value):Go.Obj->Go.Obj
 | .cells _ t qJ=>.cells vs t qJ
 |o=>o
def EH:Array Value:= #[.int .u8 128,.int .u8 191,.int .u8 160,.int .u8 191,.int .u8 128,.int .u8 159,.int .u8 144,.int .u8 191,.int .u8 128,.int .u8 143,.int .u8 0,.int .u8 0,.int .u8 0,.int .u8 0,.int .u8 0,.int .u8 0,.int .u8 0,.int .u8 0,.int .u8 0,.int .u8 0,.int .u8 0,.int .u8 0,.int .u8 0,.int .u8 0,.int .u8 0,.int .u8 0,.int .u8 0,.int .u8 0,.int .u8 0,.int .u8 0,.int .u8 0,.int .u8 0]
noncomputable def mS(os:Os):World:=
 {World.holding prog os ⟨#[],#[],[]⟩with
  heap:=((World.holding prog os ⟨#[],#[],[]⟩).heap.modify 1 (qI (Go.Pinned.utf8FirstZ.map λn=>Value.int .u8 ((n:Nat):Int)).toArray)).modify 2 (qI EH)}
theorem EI(os:Os):laidMet prog Rows.ghostAllUptoRow.laid ((mS os).forCall (λ_ _=>0) ⟨#[],#[.slice none 0 0,.slice none 0 0],[]⟩).memory:=
 laidMet_of_run' 8 (by kernel_rfl) (by kernel_rfl)
theorem zh(os:Os){H:Type}(enc:TypeId×Value->H):∃places,DataW.whole enc prog ((mS os).forCall (λ_ _=>0) ⟨#[],#[.slice none 0 0,.slice none 0 0],[]⟩).memory Tryz.f6.params.toList Rows.ghostAllSpec.vars false (#[.slice none 0 0,.slice none 0 0]:Array Value).toList 8=some ([.nil,.nil],[],places):=
 ⟨[],by kernel_rfl⟩
theorem yD(os:Os)(started:os.Started)(H:Type)(enc:TypeId×Value->H)(F:Stop.Interp):
  ReturnsInHanded {} Tryz.checked os 6 .any ((Rows.OpenSpec.upto Rows.ghostAllSpec).preRow enc prog Tryz.f6 Rows.ghostAllUptoRow.domain false Rows.ghostAllUptoRow.laid) (((Rows.OpenSpec.upto Rows.ghostAllSpec).at F).post enc prog Tryz.f6 false true false false):=by
 obtain⟨places,hx⟩:=zh os enc;refine returnsInHanded_of_row (C:=Tryz.checked) (s:=Rows.OpenSpec.upto Rows.ghostAllSpec) EG started (by as_aux_lemma=>kernel_rfl) func6
  (witness_row_at (enc:=enc) (C:=Tryz.checked) false (mS os) #[.slice none 0 0,.slice none 0 0] rfl (by as_aux_lemma=>kernel_rfl) (by as_aux_lemma=>kernel_rfl) (by as_aux_lemma=>kernel_rfl)
   (OpenSpec.preRow_of_cond 8 hx (by as_aux_lemma=>kernel_rfl) (λk hk=>by cases hk;as_aux_lemma=>kernel_rfl) (by as_aux_lemma=>kernel_rfl) (EI os))) ?_
 intro W ar args ds gs before j7 hW _ hk _ _ _ _;exact uP H enc W ar args ds gs before j7 (hk _ rfl) hW
theorem zi{a b:Bool}(h:a=true)(g:b=true):(a&&b)=true:=by rw[h,g];rfl
theorem yE:joinedFacts Tryz.pinned.checked.prog 6 Tryz.f6 (Rows.OpenSpec.upto Rows.ghostAllSpec).bare Rows.ghostAllUptoRow=true:=by
 unfold joinedFacts;repeat' with_reducible refine zi ?_ ?_
 all_goals as_aux_lemma=>kernel_rfl
theorem EJ:Rows.GhostAllUptoSaid:=
 OpenClaim.holds_of_cond 6 Tryz.f6 rfl rfl rfl rfl rfl rfl rfl ⟨rfl,rfl,rfl,rfl,rfl⟩ rfl rfl rfl rfl rfl (by as_aux_lemma=>kernel_rfl) func6 yE
  (of_decide_eq_true (by as_aux_lemma=>kernel_rfl)) (by unfold Func.isWrapper;first|(rw[if_pos (by as_aux_lemma=>decide+kernel)];kernel_rfl)|(rw[if_neg (by as_aux_lemma=>decide+kernel)];exact⟨rfl,rfl⟩))
  (λos started H enc _ F=>by rw[OpenClaim.pre_eq_preRow];exact yD os started H enc F)
theorem zj(f:FuncId)(fn:Func)(hf:Tryz.pinned.checked.prog.funcNamed Tryz.f6.name=some f)(hfn:Tryz.pinned.checked.prog.funcs[f]? =some fn):
  false=Tryz.pinned.checked.prog.looks []/\∀(j:Nat)t,fn.params[j]? =some t->Tryz.pinned.checked.prog.wantsStandIn t=false:=by
 obtain rfl:f=6:=adN ((show prog.funcNamed Tryz.f6.name=some 6 by kernel_rfl).symm.trans hf)|>.symm
 obtain rfl:fn=Tryz.f6:=(adN (func6.symm.trans hfn)).symm;refine⟨by kernel_rfl,λj t ht=>?_⟩
 rw[params6]at ht;have ht:t=38\/t=28:=by have h0:=Array.mem_of_getElem? ht;simp at h0;grind
 rcases ht with rfl|rfl
 .exact(show prog.wantsStandIn 38=false by kernel_rfl)
 .exact(show prog.wantsStandIn 28=false by kernel_rfl)
theorem EK:Rows.GhostAllUptoCardSaid:=
 Claim7.holds_tied_plain_at .later [] _ _ _ _ EJ (λ_ h=>by cases h) (by kernel_rfl) (λ_ h=>by cases h) ghostAllUpto_row_tie rfl ⟨rfl,rfl⟩ (by kernel_rfl) rfl zj (by kernel_rfl)
end Go.Proofs.YtodckkkbiidffaaGreatDoor
