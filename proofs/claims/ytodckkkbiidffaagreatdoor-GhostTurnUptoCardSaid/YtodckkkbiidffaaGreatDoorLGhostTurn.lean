/- The law GhostTurn, where what it reads is of bulk at most 1048576: whatever the input, it returns true, and the input reads as it did. -/
import Derived.Test.YtodckkkbiidffaaGreatDoorG11
import Derived.Test.YtodckkkbiidffaaGreatDoorG16
import Derived.Test.YtodckkkbiidffaaGreatDoorCards
import Derived.Test.YtodckkkbiidffaaGreatDoorTie
import Derived.WalkKit
import Derived.ProofKit
import Derived.OpenShut
import Derived.Deep.DeepHandedRow
import Derived.JoinedCond
import Derived.KernelRfl
set_option linter.unusedVariables false
set_option linter.unusedSimpArgs false
set_option maxRecDepth 100000
set_option maxHeartbeats 0
namespace Go.Proofs.YtodckkkbiidffaaGreatDoor
open Proofs.Tryz
open Go.AM Go.ChangeShapes Go.WideShapes Go.ChangeAt Go.RowKit
theorem QJ(e:List Dt)(hf:ir [.i .i64,.i .i64] e):∃a:li,True/\e=a.enc:=by
 cases hf with|i _ a _ hf=>cases hf with|i _ b _ hf=>cases hf with|nil=>exact⟨⟨a,b⟩,trivial,rfl⟩
theorem qN:∀{l:List (List Dt)}{e:List Dt},e∈l->Dt.fz e<=Dt.dE l
 | [],e,h=>by simp at h
 |x::r,e,h=>by
  simp only[Dt.dE];rcases aa1.1 h with rfl|h
  .omega
  .have:=qN h;omega
theorem QK{elems:List (List Dt)}(h:∀e,e∈elems->ir [.i .i64,.sl [.i .i64,.i .i64]] e):∃l:List cR,elems=l.map cR.enc/\∀p,p∈l->p.bj.length<=Dt.dE elems:=by
 obtain⟨l,_,he⟩:=mM cR.enc (λ_=>True) (λe hf=>by
  cases hf with|i _ a _ hf=>cases hf with|sl _ em he hf=>cases hf with|nil=>
  obtain⟨ms,_,hm⟩:=mM li.enc (λ_=>True) QJ he
  subst hm;exact⟨⟨a,ms⟩,trivial,rfl⟩) h
 refine⟨l,he,λp hp=>?_⟩
 have h1:Dt.fz p.enc<=Dt.dE elems:=qN (by rw[he];exact aak.2 ⟨p,hp,rfl⟩)
 have h2:=Dt.kU (p.bj.map li.enc) λe hx=>by obtain⟨s,_,rfl⟩:=aak.1 hx;simp[li.enc]
 rw[ML]at h2;simp only[cR.enc,Dt.fz,Dt.size]at h1;omega
theorem T8{elems:List (List Dt)}(h:∀e,e∈elems->ir [.i .u8] e):∃l:List Int,elems=i4 l/\(∀x,x∈l->0<=x/\x<=255)/\l.length<=Dt.dE elems:=by
 obtain⟨l,hl,he⟩:=mM (λx:Int=>[Dt.val (.int .u8 x)]) (λx=>0<=x/\x<=255) (λe hf=>by
  cases hf with|i _ a ha hf=>cases hf with|nil=>exact⟨a,by simpa[Lit.wf,IntKind.min,IntKind.max,IntKind.signed,IntKind.bits]using ha,rfl⟩) h
 refine⟨l,he,hl,?_⟩;have:=Dt.kU elems λe hx=>(h e hx).ne aC
 rw[he]at this|-;simpa using this
theorem T9{elems:List (List Dt)}(h:∀e,e∈elems->ir [.i .i64,.i .i64,.i .i64,.i .i64,.i .i64,.i .i64,.i .i64,.s,.sl [.i .u8]] e)(hb:Dt.dE elems<=1048576):∃l:List Kn.Cl,elems=l.map Kn.Cl.enc/\Kn.Xw l:=by
 obtain⟨l,_,he⟩:=mM Kn.Cl.enc (λ_=>True) (λe hf=>by
  cases hf with|i _ a1 _ hf=>cases hf with|i _ a2 _ hf=>cases hf with|i _ a3 _ hf=>cases hf with|i _ a4 _ hf=>cases hf with|i _ a5 _ hf=>cases hf with|i _ a6 _ hf=>cases hf with|i _ a7 _ hf=>cases hf with|s x hf=>cases hf with|sl _ em he hf=>cases hf with|nil=>
  obtain⟨d,rfl,-,-⟩:=T8 he;obtain⟨t,rfl⟩:=bK.AV x;exact⟨⟨a1,a2,a3,a4,a5,a6,a7,t,d⟩,trivial,rfl⟩) h
 refine⟨l,he,⟨?_,λc hc=>?_⟩⟩
 .have:=Dt.kU elems λe hx=>(h e hx).ne aC
  rw[he,ML]at this;rw[he]at hb;omega
 .have h1:Dt.fz c.enc<=Dt.dE elems:=qN (by rw[he];exact aak.2 ⟨c,hc,rfl⟩)
  have h2:=Dt.kU (i4 c.data) λe hx=>by obtain⟨s,_,rfl⟩:=aak.1 hx;simp
  have h3:(i4 c.data).length=c.data.length:=by simp[i4]
  rw[h3]at h2;simp only[Kn.Cl.enc,Dt.fz,Dt.size]at h1;omega
theorem Bx:ownKnob prog.godebug=none:=by kernel_rfl
theorem yo:laidOutB prog=true:=by kernel_rfl
theorem jN{H:Type}(d:DataW H):1<=Rows.uptoBulk d:=by
 cases d with
 |lit l=>cases l<;>simp[Rows.uptoBulk]
 |_=>simp[Rows.uptoBulk]
theorem jz{H:Type}:∀l:List (DataW H),lF Rows.uptoBulk l=Rows.uptoBulkAll l
 | []=>by simp[lF,Rows.uptoBulkAll]
 |d::r=>by simp[lF,Rows.uptoBulkAll,jz r]
def yp(H:Type):Pi H where
 f:=Rows.uptoBulk
 str s:=by simp[Rows.uptoBulk]
 lit l:=jN _
 nil:=jN _
 slice a b:=by simp[Rows.uptoBulk,jz]
 agg a:=by simp[Rows.uptoBulk,jz]
def oX:List Sh:=[⟨false,[.sl [.i .i64,.sl [.i .i64,.i .i64]]]⟩,⟨false,[.sl [.i .i64,.i .i64,.i .i64,.i .i64,.i .i64,.i .i64,.i .i64,.s,.sl [.i .u8]]]⟩,⟨false,[.i .i64]⟩]
theorem yq:Iw prog Tryz.f5.params.toList=some oX:=by kernel_rfl
theorem yr(qn:List (List Dt))(hf:yU oX qn)(hb:Dt.dE qn<=1048576):aq prog 5 (rD oX qn) [] λr _=>r=aE true:=by
 cases hf with|cons h1 hf=>
 cases hf with|cons h2 hf=>
 cases hf with|cons h3 hf=>
 cases hf;cases h1 with|sl _ abk OS h1=>
 cases h1;cases h2 with|sl _ Ua jY h2=>
 cases h2;cases h3 with|i _ v3 _ h3=>
 cases h3;have fx:Dt.dE Ua<=1048576:=by simp only[Dt.dE,Dt.fz,Dt.size]at hb;omega
 obtain⟨l,rfl,-⟩:=QK OS;obtain⟨cs,rfl,eB⟩:=T9 jY fx;exact Kn.Oi l cs eB v3
theorem sG(H:Type)(enc:TypeId×Value->H)(W:World)(ar:Nat)(args:Array Value)(ds gs:List (DataW H))(before:List MemPlace)(jF:∀(j:Nat)t v,Tryz.f5.params[j]? =some t->args[j]? =some v->Value.okWide prog W .any ar t v)(hk:Rows.uptoSmall H (ds++gs)=true)(hW:DataW.Whole enc prog Tryz.f5.params.toList Rows.ghostTurnSpec.vars false W args.toList ds gs before):
  Calls prog 5 args W λe W'=>∃v,e= .returned v/\Rows.ghostTurnSpec.post enc prog Tryz.f5 false true false false W args v W':=by
 refine As (yp H) yo underlying4 (by kernel_rfl) rfl ?_ yq (by kernel_rfl) ?_ jF hW
 .intro ds yG
  match ds,yG with
  | [d1,d2,d3],_=>rfl
 .intro qn hf dn;refine yr qn hf (abH dn ?_);have h1:Rows.uptoBulkAll (ds++gs)<=1048576:=of_decide_eq_true hk;have h2:∀a b:List (DataW H),Rows.uptoBulkAll a<=Rows.uptoBulkAll (a++b):=by
   intro a b
   induction a with
   |nil=>simp[Rows.uptoBulkAll]
   |cons x r ih=>simp only[adg,Rows.uptoBulkAll];omega
  show lF Rows.uptoBulk ds<=1048576;rw[jz];exact abH (h2 ds gs) h1
def oY(vs:Array Value):Go.Obj->Go.Obj
 | .cells _ t pW=>.cells vs t pW
 |o=>o
def By:Array Value:= #[.int .u8 128,.int .u8 191,.int .u8 160,.int .u8 191,.int .u8 128,.int .u8 159,.int .u8 144,.int .u8 191,.int .u8 128,.int .u8 143,.int .u8 0,.int .u8 0,.int .u8 0,.int .u8 0,.int .u8 0,.int .u8 0,.int .u8 0,.int .u8 0,.int .u8 0,.int .u8 0,.int .u8 0,.int .u8 0,.int .u8 0,.int .u8 0,.int .u8 0,.int .u8 0,.int .u8 0,.int .u8 0,.int .u8 0,.int .u8 0,.int .u8 0,.int .u8 0]
noncomputable def lv(os:Os):World:=
 {World.holding prog os ⟨#[],#[],[]⟩with
  heap:=((World.holding prog os ⟨#[],#[],[]⟩).heap.modify 1 (oY (Go.Pinned.utf8FirstZ.map λn=>Value.int .u8 ((n:Nat):Int)).toArray)).modify 2 (oY By)}
theorem Bz(os:Os):laidMet prog Rows.ghostTurnUptoRow.laid ((lv os).forCall (λ_ _=>0) ⟨#[],#[.slice none 0 0,.slice none 0 0,.int .i64 0],[]⟩).memory:=
 laidMet_of_run' 8 (by kernel_rfl) (by kernel_rfl)
theorem xN(os:Os){H:Type}(enc:TypeId×Value->H):∃places,DataW.whole enc prog ((lv os).forCall (λ_ _=>0) ⟨#[],#[.slice none 0 0,.slice none 0 0,.int .i64 0],[]⟩).memory Tryz.f5.params.toList Rows.ghostTurnSpec.vars false (#[.slice none 0 0,.slice none 0 0,.int .i64 0]:Array Value).toList 8=some ([.nil,.nil,.lit (.int .i64 0)],[],places):=
 ⟨[],by kernel_rfl⟩
theorem u4(os:Os)(started:os.Started)(H:Type)(enc:TypeId×Value->H)(F:Stop.Interp):
  ReturnsInHanded {} Tryz.checked os 5 .any ((Rows.OpenSpec.upto Rows.ghostTurnSpec).preRow enc prog Tryz.f5 Rows.ghostTurnUptoRow.domain false Rows.ghostTurnUptoRow.laid) (((Rows.OpenSpec.upto Rows.ghostTurnSpec).at F).post enc prog Tryz.f5 false true false false):=by
 obtain⟨places,hx⟩:=xN os enc;refine returnsInHanded_of_row (C:=Tryz.checked) (s:=Rows.OpenSpec.upto Rows.ghostTurnSpec) Bx started (by as_aux_lemma=>kernel_rfl) func5
  (witness_row_at (enc:=enc) (C:=Tryz.checked) false (lv os) #[.slice none 0 0,.slice none 0 0,.int .i64 0] rfl (by as_aux_lemma=>kernel_rfl) (by as_aux_lemma=>kernel_rfl) (by as_aux_lemma=>kernel_rfl)
   (OpenSpec.preRow_of_cond 8 hx (by as_aux_lemma=>kernel_rfl) (λk hk=>by cases hk;as_aux_lemma=>kernel_rfl) (by as_aux_lemma=>kernel_rfl) (Bz os))) ?_
 intro W ar args ds gs before jF hW _ hk _ _ _ _;exact sG H enc W ar args ds gs before jF (hk _ rfl) hW
theorem xO{a b:Bool}(h:a=true)(g:b=true):(a&&b)=true:=by rw[h,g];rfl
theorem u5:joinedFacts Tryz.pinned.checked.prog 5 Tryz.f5 (Rows.OpenSpec.upto Rows.ghostTurnSpec).bare Rows.ghostTurnUptoRow=true:=by
 unfold joinedFacts;repeat' with_reducible refine xO ?_ ?_
 all_goals as_aux_lemma=>kernel_rfl
theorem BA:Rows.GhostTurnUptoSaid:=
 OpenClaim.holds_of_cond 5 Tryz.f5 rfl rfl rfl rfl rfl rfl rfl ⟨rfl,rfl,rfl,rfl,rfl⟩ rfl rfl rfl rfl rfl (by as_aux_lemma=>kernel_rfl) func5 u5
  (of_decide_eq_true (by as_aux_lemma=>kernel_rfl)) (by unfold Func.isWrapper;first|(rw[if_pos (by as_aux_lemma=>decide+kernel)];kernel_rfl)|(rw[if_neg (by as_aux_lemma=>decide+kernel)];exact⟨rfl,rfl⟩))
  (λos started H enc _ F=>by rw[OpenClaim.pre_eq_preRow];exact u4 os started H enc F)
theorem xP(f:FuncId)(fn:Func)(hf:Tryz.pinned.checked.prog.funcNamed Tryz.f5.name=some f)(Y0:Tryz.pinned.checked.prog.funcs[f]? =some fn):
  false=Tryz.pinned.checked.prog.looks []/\∀(j:Nat)t,fn.params[j]? =some t->Tryz.pinned.checked.prog.wantsStandIn t=false:=by
 obtain rfl:f=5:=acF ((show prog.funcNamed Tryz.f5.name=some 5 by kernel_rfl).symm.trans hf)|>.symm
 obtain rfl:fn=Tryz.f5:=(acF (func5.symm.trans Y0)).symm;refine⟨by kernel_rfl,λj t ht=>?_⟩
 rw[params5]at ht;have ht:t=38\/t=28\/t=3:=by have h0:=Array.mem_of_getElem? ht;simp at h0;grind
 rcases ht with rfl|rfl|rfl
 .exact(show prog.wantsStandIn 38=false by kernel_rfl)
 .exact(show prog.wantsStandIn 28=false by kernel_rfl)
 .exact(show prog.wantsStandIn 3=false by kernel_rfl)
theorem BM:Rows.GhostTurnUptoCardSaid:=
 Claim7.holds_tied_plain_at .later [] _ _ _ _ BA (λ_ h=>by cases h) (by kernel_rfl) (λ_ h=>by cases h) ghostTurnUpto_row_tie rfl ⟨rfl,rfl⟩ (by kernel_rfl) rfl xP (by kernel_rfl)
end Go.Proofs.YtodckkkbiidffaaGreatDoor
