/- The law GhostLess, where what it reads is of bulk at most 1048576: whatever the input, it returns true, and the input reads as it did. -/
import Derived.Test.YtodckkkbiidffaaGreatDoorK11
import Derived.Test.YtodckkkbiidffaaGreatDoorK16
import Derived.Test.YtodckkkbiidffaaGreatDoorCards
import Derived.Test.YtodckkkbiidffaaGreatDoorTie
import Derived.WalkKit
import Derived.ProofKit
import Derived.OpenShut
import Derived.Deep.DeepHandedRow
import Derived.JoinedCond
import Derived.KernelRfl
set_option linter.unusedVariables false
set_option linter.unusedSimpArgs false
set_option maxRecDepth 100000
set_option maxHeartbeats 0
namespace Go.Proofs.YtodckkkbiidffaaGreatDoor
open Proofs.Tryz
open Go.AM Go.ChangeShapes Go.WideShapes Go.ChangeAt Go.RowKit
theorem Sr(e:List Dt)(hf:iO [.i .i64,.i .i64] e):∃a:mC,True/\e=a.enc:=by
 cases hf with|i _ a _ hf=>cases hf with|i _ b _ hf=>cases hf with|nil=>exact⟨⟨a,b⟩,trivial,rfl⟩
theorem rJ:∀{l:List (List Dt)}{e:List Dt},e∈l->Dt.fS e<=Dt.dM l
 | [],e,h=>by simp at h
 |x::r,e,h=>by
  simp only[Dt.dM];rcases aaJ.1 h with rfl|h
  .omega
  .have:=rJ h;omega
theorem Ss{elems:List (List Dt)}(h:∀e,e∈elems->iO [.i .i64,.sl [.i .i64,.i .i64]] e):∃l:List dy,elems=l.map dy.enc/\∀p,p∈l->p.bt.length<=Dt.dM elems:=by
 obtain⟨l,_,he⟩:=nj dy.enc (λ_=>True) (λe hf=>by
  cases hf with|i _ a _ hf=>cases hf with|sl _ em he hf=>cases hf with|nil=>
  obtain⟨ms,_,hm⟩:=nj mC.enc (λ_=>True) Sr he
  subst hm;exact⟨⟨a,ms⟩,trivial,rfl⟩) h
 refine⟨l,he,λp hp=>?_⟩
 have h1:Dt.fS p.enc<=Dt.dM elems:=rJ (by rw[he];exact aal.2 ⟨p,hp,rfl⟩)
 have h2:=Dt.lv (p.bt.map mC.enc) λe hx=>by obtain⟨s,_,rfl⟩:=aal.1 hx;simp[mC.enc]
 rw[Pj]at h2;simp only[dy.enc,Dt.fS,Dt.size]at h1;omega
theorem VO{elems:List (List Dt)}(h:∀e,e∈elems->iO [.i .u8] e):∃l:List Int,elems=jw l/\(∀x,x∈l->0<=x/\x<=255)/\l.length<=Dt.dM elems:=by
 obtain⟨l,hl,he⟩:=nj (λx:Int=>[Dt.val (.int .u8 x)]) (λx=>0<=x/\x<=255) (λe hf=>by
  cases hf with|i _ a ha hf=>cases hf with|nil=>exact⟨a,by simpa[Lit.wf,IntKind.min,IntKind.max,IntKind.signed,IntKind.bits]using ha,rfl⟩) h
 refine⟨l,he,hl,?_⟩;have:=Dt.lv elems λe hx=>(h e hx).ne aE
 rw[he]at this|-;simpa using this
theorem VP{elems:List (List Dt)}(h:∀e,e∈elems->iO [.i .i64,.i .i64,.i .i64,.i .i64,.i .i64,.i .i64,.i .i64,.s,.sl [.i .u8]] e)(hb:Dt.dM elems<=1048576):∃l:List Kn.Cl,elems=l.map Kn.Cl.enc/\Kn.Y9 l:=by
 obtain⟨l,_,he⟩:=nj Kn.Cl.enc (λ_=>True) (λe hf=>by
  cases hf with|i _ a1 _ hf=>cases hf with|i _ a2 _ hf=>cases hf with|i _ a3 _ hf=>cases hf with|i _ a4 _ hf=>cases hf with|i _ a5 _ hf=>cases hf with|i _ a6 _ hf=>cases hf with|i _ a7 _ hf=>cases hf with|s x hf=>cases hf with|sl _ em he hf=>cases hf with|nil=>
  obtain⟨d,rfl,-,-⟩:=VO he;obtain⟨t,rfl⟩:=bM.BK x;exact⟨⟨a1,a2,a3,a4,a5,a6,a7,t,d⟩,trivial,rfl⟩) h
 refine⟨l,he,⟨?_,λc hc=>?_⟩⟩
 .have:=Dt.lv elems λe hx=>(h e hx).ne aE
  rw[he,Pj]at this;rw[he]at hb;omega
 .have h1:Dt.fS c.enc<=Dt.dM elems:=rJ (by rw[he];exact aal.2 ⟨c,hc,rfl⟩)
  have h2:=Dt.lv (jw c.data) λe hx=>by obtain⟨s,_,rfl⟩:=aal.1 hx;simp
  have h3:(jw c.data).length=c.data.length:=by simp[jw]
  rw[h3]at h2;simp only[Kn.Cl.enc,Dt.fS,Dt.size]at h1;omega
theorem Cu:ownKnob prog.godebug=none:=by kernel_rfl
theorem zn:laidOutB prog=true:=by kernel_rfl
theorem kp{H:Type}(d:DataW H):1<=Rows.uptoBulk d:=by
 cases d with
 |lit l=>cases l<;>simp[Rows.uptoBulk]
 |_=>simp[Rows.uptoBulk]
theorem jW{H:Type}:∀l:List (DataW H),l4 Rows.uptoBulk l=Rows.uptoBulkAll l
 | []=>by simp[l4,Rows.uptoBulkAll]
 |d::r=>by simp[l4,Rows.uptoBulkAll,jW r]
def zo(H:Type):QH H where
 f:=Rows.uptoBulk
 str s:=by simp[Rows.uptoBulk]
 lit l:=kp _
 nil:=kp _
 slice a b:=by simp[Rows.uptoBulk,jW]
 agg a:=by simp[Rows.uptoBulk,jW]
def pM:List Sh:=[⟨false,[.sl [.i .i64,.sl [.i .i64,.i .i64]]]⟩,⟨false,[.sl [.i .i64,.i .i64,.i .i64,.i .i64,.i .i64,.i .i64,.i .i64,.s,.sl [.i .u8]]]⟩]
theorem zp:JP prog f4.params.toList=some pM:=by kernel_rfl
theorem zq(rd:List (List Dt))(hf:zT pM rd)(hb:Dt.dM rd<=1048576):ap prog 4 (sr pM rd) [] λr _=>r=aD true:=by
 cases hf with|cons h1 hf=>
 cases hf with|cons h2 hf=>
 cases hf;cases h1 with|sl _ adc Qf h1=>
 cases h1;cases h2 with|sl _ VQ kL h2=>
 cases h2;have fI:Dt.dM VQ<=1048576:=by simp only[Dt.dM,Dt.fS,Dt.size]at hb;omega
 obtain⟨l,rfl,-⟩:=Ss Qf;obtain⟨cs,rfl,fe⟩:=VP kL fI;exact Kn.PM l cs fe
theorem tu(H:Type)(enc:TypeId×Value->H)(W:World)(aq:Nat)(args:Array Value)(ds gs:List (DataW H))(before:List MemPlace)(j8:∀(j:Nat)t v,f4.params[j]? =some t->args[j]? =some v->Value.okWide prog W .any aq t v)(hk:Rows.uptoSmall H (ds++gs)=true)(hW:DataW.Whole enc prog f4.params.toList Rows.ghostLessSpec.vars false W args.toList ds gs before):
  Calls prog 4 args W λe W'=>∃v,e= .returned v/\Rows.ghostLessSpec.post enc prog f4 false true false false W args v W':=by
 refine Bi (zo H) zn underlying4 (by kernel_rfl) rfl ?_ zp (by kernel_rfl) ?_ j8 hW
 .intro ds zG
  match ds,zG with
  | [d1,d2],_=>rfl
 .intro rd hf dk;refine zq rd hf (abD dk ?_);have h1:Rows.uptoBulkAll (ds++gs)<=1048576:=of_decide_eq_true hk;have h2:∀a b:List (DataW H),Rows.uptoBulkAll a<=Rows.uptoBulkAll (a++b):=by
   intro a b
   induction a with
   |nil=>simp[Rows.uptoBulkAll]
   |cons x r ih=>simp only[ad6,Rows.uptoBulkAll];omega
  show l4 Rows.uptoBulk ds<=1048576;rw[jW];exact abD (h2 ds gs) h1
def pN(vs:Array Value):Go.Obj->Go.Obj
 | .cells _ t qN=>.cells vs t qN
 |o=>o
def Cv:Array Value:= #[.int .u8 128,.int .u8 191,.int .u8 160,.int .u8 191,.int .u8 128,.int .u8 159,.int .u8 144,.int .u8 191,.int .u8 128,.int .u8 143,.int .u8 0,.int .u8 0,.int .u8 0,.int .u8 0,.int .u8 0,.int .u8 0,.int .u8 0,.int .u8 0,.int .u8 0,.int .u8 0,.int .u8 0,.int .u8 0,.int .u8 0,.int .u8 0,.int .u8 0,.int .u8 0,.int .u8 0,.int .u8 0,.int .u8 0,.int .u8 0,.int .u8 0,.int .u8 0]
noncomputable def lU(os:Os):World:=
 {World.holding prog os ⟨#[],#[],[]⟩with
  heap:=((World.holding prog os ⟨#[],#[],[]⟩).heap.modify 1 (pN (Go.Pinned.utf8FirstZ.map λn=>Value.int .u8 ((n:Nat):Int)).toArray)).modify 2 (pN Cv)}
theorem Cw(os:Os):laidMet prog Rows.ghostLessUptoRow.laid ((lU os).forCall (λ_ _=>0) ⟨#[],#[.slice none 0 0,.slice none 0 0],[]⟩).memory:=
 laidMet_of_run' 8 (by kernel_rfl) (by kernel_rfl)
theorem yG(os:Os){H:Type}(enc:TypeId×Value->H):∃places,DataW.whole enc prog ((lU os).forCall (λ_ _=>0) ⟨#[],#[.slice none 0 0,.slice none 0 0],[]⟩).memory f4.params.toList Rows.ghostLessSpec.vars false (#[.slice none 0 0,.slice none 0 0]:Array Value).toList 8=some ([.nil,.nil],[],places):=
 ⟨[],by kernel_rfl⟩
theorem wa(os:Os)(started:os.Started)(H:Type)(enc:TypeId×Value->H)(F:Stop.Interp):
  ReturnsInHanded {} Tryz.checked os 4 .any ((Rows.OpenSpec.upto Rows.ghostLessSpec).preRow enc prog f4 Rows.ghostLessUptoRow.domain false Rows.ghostLessUptoRow.laid) (((Rows.OpenSpec.upto Rows.ghostLessSpec).at F).post enc prog f4 false true false false):=by
 obtain⟨places,hx⟩:=yG os enc;refine returnsInHanded_of_row (C:=Tryz.checked) (s:=Rows.OpenSpec.upto Rows.ghostLessSpec) Cu started (by as_aux_lemma=>kernel_rfl) func4
  (witness_row_at (enc:=enc) (C:=Tryz.checked) false (lU os) #[.slice none 0 0,.slice none 0 0] rfl (by as_aux_lemma=>kernel_rfl) (by as_aux_lemma=>kernel_rfl) (by as_aux_lemma=>kernel_rfl)
   (OpenSpec.preRow_of_cond 8 hx (by as_aux_lemma=>kernel_rfl) (λk hk=>by cases hk;as_aux_lemma=>kernel_rfl) (by as_aux_lemma=>kernel_rfl) (Cw os))) ?_
 intro W aq args ds gs before j8 hW _ hk _ _ _ _;exact tu H enc W aq args ds gs before j8 (hk _ rfl) hW
theorem yH{a b:Bool}(h:a=true)(g:b=true):(a&&b)=true:=by rw[h,g];rfl
theorem wb:joinedFacts Tryz.pinned.checked.prog 4 f4 (Rows.OpenSpec.upto Rows.ghostLessSpec).bare Rows.ghostLessUptoRow=true:=by
 unfold joinedFacts;repeat' with_reducible refine yH ?_ ?_
 all_goals as_aux_lemma=>kernel_rfl
theorem Cx:Rows.GhostLessUptoSaid:=
 OpenClaim.holds_of_cond 4 f4 rfl rfl rfl rfl rfl rfl rfl ⟨rfl,rfl,rfl,rfl,rfl⟩ rfl rfl rfl rfl rfl (by as_aux_lemma=>kernel_rfl) func4 wb
  (of_decide_eq_true (by as_aux_lemma=>kernel_rfl)) (by unfold Func.isWrapper;first|(rw[if_pos (by as_aux_lemma=>decide+kernel)];kernel_rfl)|(rw[if_neg (by as_aux_lemma=>decide+kernel)];exact⟨rfl,rfl⟩))
  (λos started H enc _ F=>by rw[OpenClaim.pre_eq_preRow];exact wa os started H enc F)
theorem yI(f:FuncId)(fn:Func)(hf:Tryz.pinned.checked.prog.funcNamed f4.name=some f)(hfn:Tryz.pinned.checked.prog.funcs[f]? =some fn):
  false=Tryz.pinned.checked.prog.looks []/\∀(j:Nat)t,fn.params[j]? =some t->Tryz.pinned.checked.prog.wantsStandIn t=false:=by
 obtain rfl:f=4:=adN ((show prog.funcNamed f4.name=some 4 by kernel_rfl).symm.trans hf)|>.symm
 obtain rfl:fn=f4:=(adN (func4.symm.trans hfn)).symm;refine⟨by kernel_rfl,λj t ht=>?_⟩
 rw[params4]at ht;have ht:t=38\/t=28:=by have h0:=Array.mem_of_getElem? ht;simp at h0;grind
 rcases ht with rfl|rfl
 .exact(show prog.wantsStandIn 38=false by kernel_rfl)
 .exact(show prog.wantsStandIn 28=false by kernel_rfl)
theorem CJ:Rows.GhostLessUptoCardSaid:=
 Claim7.holds_tied_plain_at .later [] _ _ _ _ Cx (λ_ h=>by cases h) (by kernel_rfl) (λ_ h=>by cases h) ghostLessUpto_row_tie rfl ⟨rfl,rfl⟩ (by kernel_rfl) rfl yI (by kernel_rfl)
end Go.Proofs.YtodckkkbiidffaaGreatDoor
