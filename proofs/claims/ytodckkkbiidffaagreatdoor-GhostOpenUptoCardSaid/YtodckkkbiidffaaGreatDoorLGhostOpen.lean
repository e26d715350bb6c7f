/- The law GhostOpen, where what it reads is of bulk at most 1048576: whatever the input, it returns true, and the input reads as it did. -/
import Derived.Test.YtodckkkbiidffaaGreatDoorH11
import Derived.Test.YtodckkkbiidffaaGreatDoorH16
import Derived.Test.YtodckkkbiidffaaGreatDoorCards
import Derived.Test.YtodckkkbiidffaaGreatDoorTie
import Derived.WalkKit
import Derived.ProofKit
import Derived.OpenShut
import Derived.Deep.DeepHandedRow
import Derived.JoinedCond
import Derived.KernelRfl
set_option linter.unusedVariables false
set_option linter.unusedSimpArgs false
set_option maxRecDepth 100000
set_option maxHeartbeats 0
namespace Go.Proofs.YtodckkkbiidffaaGreatDoor
open Proofs.Tryz
open Go.AM Go.ChangeShapes Go.WideShapes Go.ChangeAt Go.RowKit
theorem Rk(e:List Dt)(hf:iD [.i .i64,.i .i64] e):∃a:lv,True/\e=a.enc:=by
 cases hf with|i _ a _ hf=>cases hf with|i _ b _ hf=>cases hf with|nil=>exact⟨⟨a,b⟩,trivial,rfl⟩
theorem rh:∀{l:List (List Dt)}{e:List Dt},e∈l->Dt.fF e<=Dt.dH l
 | [],e,h=>by simp at h
 |x::r,e,h=>by
  simp only[Dt.dH];rcases aaB.1 h with rfl|h
  .omega
  .have:=rh h;omega
theorem Rl{elems:List (List Dt)}(h:∀e,e∈elems->iD [.i .i64,.sl [.i .i64,.i .i64]] e):∃l:List cR,elems=l.map cR.enc/\∀p,p∈l->p.bl.length<=Dt.dH elems:=by
 obtain⟨l,_,he⟩:=mV cR.enc (λ_=>True) (λe hf=>by
  cases hf with|i _ a _ hf=>cases hf with|sl _ em he hf=>cases hf with|nil=>
  obtain⟨ms,_,hm⟩:=mV lv.enc (λ_=>True) Rk he
  subst hm;exact⟨⟨a,ms⟩,trivial,rfl⟩) h
 refine⟨l,he,λp hp=>?_⟩
 have h1:Dt.fF p.enc<=Dt.dH elems:=rh (by rw[he];exact aas.2 ⟨p,hp,rfl⟩)
 have h2:=Dt.kZ (p.bl.map lv.enc) λe hx=>by obtain⟨s,_,rfl⟩:=aas.1 hx;simp[lv.enc]
 rw[Nr]at h2;simp only[cR.enc,Dt.fF,Dt.size]at h1;omega
theorem UG{elems:List (List Dt)}(h:∀e,e∈elems->iD [.i .u8] e):∃l:List Int,elems=jg l/\(∀x,x∈l->0<=x/\x<=255)/\l.length<=Dt.dH elems:=by
 obtain⟨l,hl,he⟩:=mV (λx:Int=>[Dt.val (.int .u8 x)]) (λx=>0<=x/\x<=255) (λe hf=>by
  cases hf with|i _ a ha hf=>cases hf with|nil=>exact⟨a,by simpa[Lit.wf,IntKind.min,IntKind.max,IntKind.signed,IntKind.bits]using ha,rfl⟩) h
 refine⟨l,he,hl,?_⟩;have:=Dt.kZ elems λe hx=>(h e hx).ne aC
 rw[he]at this|-;simpa using this
theorem UH{elems:List (List Dt)}(h:∀e,e∈elems->iD [.i .i64,.i .i64,.i .i64,.i .i64,.i .i64,.i .i64,.i .i64,.s,.sl [.i .u8]] e)(hb:Dt.dH elems<=1048576):∃l:List Kn.Cl,elems=l.map Kn.Cl.enc/\Kn.X4 l:=by
 obtain⟨l,_,he⟩:=mV Kn.Cl.enc (λ_=>True) (λe hf=>by
  cases hf with|i _ a1 _ hf=>cases hf with|i _ a2 _ hf=>cases hf with|i _ a3 _ hf=>cases hf with|i _ a4 _ hf=>cases hf with|i _ a5 _ hf=>cases hf with|i _ a6 _ hf=>cases hf with|i _ a7 _ hf=>cases hf with|s x hf=>cases hf with|sl _ em he hf=>cases hf with|nil=>
  obtain⟨d,rfl,-,-⟩:=UG he;obtain⟨t,rfl⟩:=bK.Bg x;exact⟨⟨a1,a2,a3,a4,a5,a6,a7,t,d⟩,trivial,rfl⟩) h
 refine⟨l,he,⟨?_,λc hc=>?_⟩⟩
 .have:=Dt.kZ elems λe hx=>(h e hx).ne aC
  rw[he,Nr]at this;rw[he]at hb;omega
 .have h1:Dt.fF c.enc<=Dt.dH elems:=rh (by rw[he];exact aas.2 ⟨c,hc,rfl⟩)
  have h2:=Dt.kZ (jg c.data) λe hx=>by obtain⟨s,_,rfl⟩:=aas.1 hx;simp
  have h3:(jg c.data).length=c.data.length:=by simp[jg]
  rw[h3]at h2;simp only[Kn.Cl.enc,Dt.fF,Dt.size]at h1;omega
theorem BQ:ownKnob prog.godebug=none:=by kernel_rfl
theorem yK:laidOutB prog=true:=by kernel_rfl
theorem jT{H:Type}(d:DataW H):1<=Rows.uptoBulk d:=by
 cases d with
 |lit l=>cases l<;>simp[Rows.uptoBulk]
 |_=>simp[Rows.uptoBulk]
theorem jI{H:Type}:∀l:List (DataW H),lL Rows.uptoBulk l=Rows.uptoBulkAll l
 | []=>by simp[lL,Rows.uptoBulkAll]
 |d::r=>by simp[lL,Rows.uptoBulkAll,jI r]
def yL(H:Type):PZ H where
 f:=Rows.uptoBulk
 str s:=by simp[Rows.uptoBulk]
 lit l:=jT _
 nil:=jT _
 slice a b:=by simp[Rows.uptoBulk,jI]
 agg a:=by simp[Rows.uptoBulk,jI]
def po:List Sh:=[⟨false,[.sl [.i .i64,.sl [.i .i64,.i .i64]]]⟩,⟨false,[.sl [.i .i64,.i .i64,.i .i64,.i .i64,.i .i64,.i .i64,.i .i64,.s,.sl [.i .u8]]]⟩]
theorem yM:Jb prog Tryz.f7.params.toList=some po:=by kernel_rfl
theorem yN(qJ:List (List Dt))(hf:zj po qJ)(hb:Dt.dH qJ<=1048576):ap prog 7 (rT po qJ) [] λr _=>r=aE true:=by
 cases hf with|cons h1 hf=>
 cases hf with|cons h2 hf=>
 cases hf;cases h1 with|sl _ abY Py h1=>
 cases h1;cases h2 with|sl _ UI ke h2=>
 cases h2;have fx:Dt.dH UI<=1048576:=by simp only[Dt.dH,Dt.fF,Dt.size]at hb;omega
 obtain⟨l,rfl,-⟩:=Rl Py;obtain⟨cs,rfl,eC⟩:=UH ke fx;exact Kn.O3 l cs eC
theorem sX(H:Type)(enc:TypeId×Value->H)(W:World)(ar:Nat)(args:Array Value)(ds gs:List (DataW H))(before:List MemPlace)(jM:∀(j:Nat)t v,Tryz.f7.params[j]? =some t->args[j]? =some v->Value.okWide prog W .any ar t v)(hk:Rows.uptoSmall H (ds++gs)=true)(hW:DataW.Whole enc prog Tryz.f7.params.toList Rows.ghostOpenSpec.vars false W args.toList ds gs before):
  Calls prog 7 args W λe W'=>∃v,e= .returned v/\Rows.ghostOpenSpec.post enc prog Tryz.f7 false true false false W args v W':=by
 refine AO (yL H) yK underlying4 (by kernel_rfl) rfl ?_ yM (by kernel_rfl) ?_ jM hW
 .intro ds y4
  match ds,y4 with
  | [d1,d2],_=>rfl
 .intro qJ hf dj;refine yN qJ hf (abP dj ?_);have h1:Rows.uptoBulkAll (ds++gs)<=1048576:=of_decide_eq_true hk;have h2:∀a b:List (DataW H),Rows.uptoBulkAll a<=Rows.uptoBulkAll (a++b):=by
   intro a b
   induction a with
   |nil=>simp[Rows.uptoBulkAll]
   |cons x r ih=>simp only[adv,Rows.uptoBulkAll];omega
  show lL Rows.uptoBulk ds<=1048576;rw[jI];exact abP (h2 ds gs) h1
def pq(vs:Array Value):Go.Obj->Go.Obj
 | .cells _ t qt=>.cells vs t qt
 |o=>o
def BR:Array Value:= #[.int .u8 128,.int .u8 191,.int .u8 160,.int .u8 191,.int .u8 128,.int .u8 159,.int .u8 144,.int .u8 191,.int .u8 128,.int .u8 143,.int .u8 0,.int .u8 0,.int .u8 0,.int .u8 0,.int .u8 0,.int .u8 0,.int .u8 0,.int .u8 0,.int .u8 0,.int .u8 0,.int .u8 0,.int .u8 0,.int .u8 0,.int .u8 0,.int .u8 0,.int .u8 0,.int .u8 0,.int .u8 0,.int .u8 0,.int .u8 0,.int .u8 0,.int .u8 0]
noncomputable def lE(os:Os):World:=
 {World.holding prog os ⟨#[],#[],[]⟩with
  heap:=((World.holding prog os ⟨#[],#[],[]⟩).heap.modify 1 (pq (Go.Pinned.utf8FirstZ.map λn=>Value.int .u8 ((n:Nat):Int)).toArray)).modify 2 (pq BR)}
theorem BS(os:Os):laidMet prog Rows.ghostOpenUptoRow.laid ((lE os).forCall (λ_ _=>0) ⟨#[],#[.slice none 0 0,.slice none 0 0],[]⟩).memory:=
 laidMet_of_run' 8 (by kernel_rfl) (by kernel_rfl)
theorem ya(os:Os){H:Type}(enc:TypeId×Value->H):∃places,DataW.whole enc prog ((lE os).forCall (λ_ _=>0) ⟨#[],#[.slice none 0 0,.slice none 0 0],[]⟩).memory Tryz.f7.params.toList Rows.ghostOpenSpec.vars false (#[.slice none 0 0,.slice none 0 0]:Array Value).toList 8=some ([.nil,.nil],[],places):=
 ⟨[],by kernel_rfl⟩
theorem vq(os:Os)(started:os.Started)(H:Type)(enc:TypeId×Value->H)(F:Stop.Interp):
  ReturnsInHanded {} Tryz.checked os 7 .any ((Rows.OpenSpec.upto Rows.ghostOpenSpec).preRow enc prog Tryz.f7 Rows.ghostOpenUptoRow.domain false Rows.ghostOpenUptoRow.laid) (((Rows.OpenSpec.upto Rows.ghostOpenSpec).at F).post enc prog Tryz.f7 false true false false):=by
 obtain⟨places,hx⟩:=ya os enc;refine returnsInHanded_of_row (C:=Tryz.checked) (s:=Rows.OpenSpec.upto Rows.ghostOpenSpec) BQ started (by as_aux_lemma=>kernel_rfl) func7
  (witness_row_at (enc:=enc) (C:=Tryz.checked) false (lE os) #[.slice none 0 0,.slice none 0 0] rfl (by as_aux_lemma=>kernel_rfl) (by as_aux_lemma=>kernel_rfl) (by as_aux_lemma=>kernel_rfl)
   (OpenSpec.preRow_of_cond 8 hx (by as_aux_lemma=>kernel_rfl) (λk hk=>by cases hk;as_aux_lemma=>kernel_rfl) (by as_aux_lemma=>kernel_rfl) (BS os))) ?_
 intro W ar args ds gs before jM hW _ hk _ _ _ _;exact sX H enc W ar args ds gs before jM (hk _ rfl) hW
theorem yb{a b:Bool}(h:a=true)(g:b=true):(a&&b)=true:=by rw[h,g];rfl
theorem vr:joinedFacts Tryz.pinned.checked.prog 7 Tryz.f7 (Rows.OpenSpec.upto Rows.ghostOpenSpec).bare Rows.ghostOpenUptoRow=true:=by
 unfold joinedFacts;repeat' with_reducible refine yb ?_ ?_
 all_goals as_aux_lemma=>kernel_rfl
theorem BT:Rows.GhostOpenUptoSaid:=
 OpenClaim.holds_of_cond 7 Tryz.f7 rfl rfl rfl rfl rfl rfl rfl ⟨rfl,rfl,rfl,rfl,rfl⟩ rfl rfl rfl rfl rfl (by as_aux_lemma=>kernel_rfl) func7 vr
  (of_decide_eq_true (by as_aux_lemma=>kernel_rfl)) (by unfold Func.isWrapper;first|(rw[if_pos (by as_aux_lemma=>decide+kernel)];kernel_rfl)|(rw[if_neg (by as_aux_lemma=>decide+kernel)];exact⟨rfl,rfl⟩))
  (λos started H enc _ F=>by rw[OpenClaim.pre_eq_preRow];exact vq os started H enc F)
theorem yc(f:FuncId)(fn:Func)(hf:Tryz.pinned.checked.prog.funcNamed Tryz.f7.name=some f)(ZA:Tryz.pinned.checked.prog.funcs[f]? =some fn):
  false=Tryz.pinned.checked.prog.looks []/\∀(j:Nat)t,fn.params[j]? =some t->Tryz.pinned.checked.prog.wantsStandIn t=false:=by
 obtain rfl:f=7:=ada ((show prog.funcNamed Tryz.f7.name=some 7 by kernel_rfl).symm.trans hf)|>.symm
 obtain rfl:fn=Tryz.f7:=(ada (func7.symm.trans ZA)).symm;refine⟨by kernel_rfl,λj t ht=>?_⟩
 rw[params7]at ht;have ht:t=38\/t=28:=by have h0:=Array.mem_of_getElem? ht;simp at h0;grind
 rcases ht with rfl|rfl
 .exact(show prog.wantsStandIn 38=false by kernel_rfl)
 .exact(show prog.wantsStandIn 28=false by kernel_rfl)
theorem B6:Rows.GhostOpenUptoCardSaid:=
 Claim7.holds_tied_plain_at .later [] _ _ _ _ BT (λ_ h=>by cases h) (by kernel_rfl) (λ_ h=>by cases h) ghostOpenUpto_row_tie rfl ⟨rfl,rfl⟩ (by kernel_rfl) rfl yc (by kernel_rfl)
end Go.Proofs.YtodckkkbiidffaaGreatDoor
