/- The law FenceBlind, where what it reads is of bulk at most 1048576: whatever the input, it returns true, and the input reads as it did. -/
import Derived.Test.YtllkfpggoigbaaaGreatDoorW11
import Derived.Test.YtllkfpggoigbaaaGreatDoorW23
import Derived.Test.YtllkfpggoigbaaaGreatDoorCards
import Derived.Test.YtllkfpggoigbaaaGreatDoorTie
import Derived.WalkKit
import Derived.ProofKit
import Derived.OpenShut
import Derived.Deep.DeepHandedRow
import Derived.JoinedCond
import Derived.KernelRfl
set_option linter.unusedVariables false
set_option linter.unusedSimpArgs false
set_option maxRecDepth 100000
set_option maxHeartbeats 0
namespace Go.Proofs.YtllkfpggoigbaaaGreatDoor
open Proofs.Tryz
open Go.AM Go.ChangeShapes Go.WideShapes Go.ChangeAt Go.RowKit
theorem zW:∀{l:List (List Dt)}{e:List Dt},e∈l->Dt.gW e<=Dt.ep l
 | [],e,h=>by simp at h
 |x::r,e,h=>by
  simp only[Dt.ep];rcases abH.1 h with rfl|h
  .omega
  .have:=zW h;omega
theorem Jc{elems:List (List Dt)}(h:∀e,e∈elems->ke [.i .u8] e):∃l:List Int,elems=dH l/\(∀x,x∈l->0<=x/\x<=255)/\l.length<=Dt.ep elems:=by
 obtain⟨l,hl,he⟩:=vd (λx:Int=>[Dt.val (.int .u8 x)]) (λx=>0<=x/\x<=255) (λe hf=>by
  cases hf with|i _ a ha hf=>cases hf with|nil=>exact⟨a,by simpa[Lit.wf,IntKind.min,IntKind.max,IntKind.signed,IntKind.bits]using ha,rfl⟩) h
 refine⟨l,he,hl,?_⟩;have:=Dt.o8 elems λe hx=>(h e hx).ne aG
 rw[he]at this|-;simpa using this
theorem Zf{elems:List (List Dt)}(h:∀e,e∈elems->ke [.i .i64,.i .i64,.i .i64,.i .i64,.i .i64,.i .i64,.i .i64,.s,.sl [.i .u8]] e)(hb:Dt.ep elems<=1048576):∃l:List Kn.Cl,elems=l.map Kn.Cl.enc/\Kn.No l:=by
 obtain⟨l,_,he⟩:=vd Kn.Cl.enc (λ_=>True) (λe hf=>by
  cases hf with|i _ a1 _ hf=>cases hf with|i _ a2 _ hf=>cases hf with|i _ a3 _ hf=>cases hf with|i _ a4 _ hf=>cases hf with|i _ a5 _ hf=>cases hf with|i _ a6 _ hf=>cases hf with|i _ a7 _ hf=>cases hf with|s x hf=>cases hf with|sl _ em he hf=>cases hf with|nil=>
  obtain⟨d,rfl,-,-⟩:=Jc he;obtain⟨t,rfl⟩:=bY.C1 x;exact⟨⟨a1,a2,a3,a4,a5,a6,a7,t,d⟩,trivial,rfl⟩) h
 refine⟨l,he,⟨?_,λc hc=>?_⟩⟩
 .have:=Dt.o8 elems λe hx=>(h e hx).ne aG
  rw[he,P2]at this;rw[he]at hb;omega
 .have h1:Dt.gW c.enc<=Dt.ep elems:=zW (by rw[he];exact abm.2 ⟨c,hc,rfl⟩)
  have h2:=Dt.o8 (dH c.data) λe hx=>by obtain⟨s,_,rfl⟩:=abm.1 hx;simp
  have h3:(dH c.data).length=c.data.length:=by simp[dH]
  rw[h3]at h2;simp only[Kn.Cl.enc,Dt.gW,Dt.size]at h1;omega
theorem AL:ownKnob prog.godebug=none:=by kernel_rfl
theorem zX:laidOutB prog=true:=by kernel_rfl
theorem kD{H:Type}(d:DataW H):1<=Rows.uptoBulk d:=by
 cases d with
 |lit l=>cases l<;>simp[Rows.uptoBulk]
 |_=>simp[Rows.uptoBulk]
theorem jZ{H:Type}:∀l:List (DataW H),m7 Rows.uptoBulk l=Rows.uptoBulkAll l
 | []=>by simp[m7,Rows.uptoBulkAll]
 |d::r=>by simp[m7,Rows.uptoBulkAll,jZ r]
def zY(H:Type):S3 H where
 f:=Rows.uptoBulk
 str s:=by simp[Rows.uptoBulk]
 lit l:=kD _
 nil:=kD _
 slice a b:=by simp[Rows.uptoBulk,jZ]
 agg a:=by simp[Rows.uptoBulk,jZ]
def pD:List Sh:=[⟨false,[.sl [.i .u8]]⟩,⟨false,[.sl [.i .i64,.i .i64,.i .i64,.i .i64,.i .i64,.i .i64,.i .i64,.s,.sl [.i .u8]]]⟩,⟨false,[.sl [.i .u8]]⟩]
theorem zZ:LL prog f4.params.toList=some pD:=by kernel_rfl
theorem z6(sG:List (List Dt))(hf:Bf pD sG)(hb:Dt.ep sG<=1048576):aq prog 4 (tK pD sG) [] λr _=>r=ar true:=by
 cases hf with|cons h1 hf=>
 cases hf with|cons h2 hf=>
 cases hf with|cons h3 hf=>
 cases hf;cases h1 with|sl _ ahZ GM h1=>
 cases h1;cases h2 with|sl _ Zg pW h2=>
 cases h2;cases h3 with|sl _ Zh he3 h3=>
 cases h3;have lY:Dt.ep Zg<=1048576:=by simp only[Dt.ep,Dt.gW,Dt.size]at hb;omega
 have Qg:Dt.ep Zh<=1048576:=by simp only[Dt.ep,Dt.gW,Dt.size]at hb;omega
 obtain⟨v1,rfl,D4,sx⟩:=Jc GM;obtain⟨cs,rfl,fF⟩:=Zf pW lY;obtain⟨v3,rfl,hv3,hl3⟩:=Jc he3;exact Kn.AK v1 D4 cs fF v3 om
theorem sZ(H:Type)(enc:TypeId×Value->H)(W:World)(aB:Nat)(args:Array Value)(ds gs:List (DataW H))(before:List MemPlace)(lj:∀(j:Nat)t v,f4.params[j]? =some t->args[j]? =some v->Value.okWide prog W .any aB t v)(hk:Rows.uptoSmall H (ds++gs)=true)(hW:DataW.Whole enc prog f4.params.toList Rows.fenceBlindSpec.vars false W args.toList ds gs before):
  Calls prog 4 args W λe W'=>∃v,e= .returned v/\Rows.fenceBlindSpec.post enc prog f4 false true false false W args v W':=by
 refine Cz (zY H) zX underlying4 (by kernel_rfl) rfl ?_ zZ (by kernel_rfl) ?_ lj hW
 .intro ds GN
  match ds,GN with
  | [d1,d2,d3],_=>rfl
 .intro sG hf eu;refine z6 sG hf (abK eu ?_);have h1:Rows.uptoBulkAll (ds++gs)<=1048576:=of_decide_eq_true hk;have h2:∀a b:List (DataW H),Rows.uptoBulkAll a<=Rows.uptoBulkAll (a++b):=by
   intro a b
   induction a with
   |nil=>simp[Rows.uptoBulkAll]
   |cons x r ih=>simp only[afH,Rows.uptoBulkAll];omega
  show m7 Rows.uptoBulk ds<=1048576;rw[jZ];exact abK (h2 ds gs) h1
def pU(vs:Array Value):Go.Obj->Go.Obj
 | .cells _ t se=>.cells vs t se
 |o=>o
def AN:Array Value:= #[.int .u8 128,.int .u8 191,.int .u8 160,.int .u8 191,.int .u8 128,.int .u8 159,.int .u8 144,.int .u8 191,.int .u8 128,.int .u8 143,.int .u8 0,.int .u8 0,.int .u8 0,.int .u8 0,.int .u8 0,.int .u8 0,.int .u8 0,.int .u8 0,.int .u8 0,.int .u8 0,.int .u8 0,.int .u8 0,.int .u8 0,.int .u8 0,.int .u8 0,.int .u8 0,.int .u8 0,.int .u8 0,.int .u8 0,.int .u8 0,.int .u8 0,.int .u8 0]
noncomputable def lM(os:Os):World:=
 {World.holding prog os ⟨#[],#[],[]⟩with
  heap:=((World.holding prog os ⟨#[],#[],[]⟩).heap.modify 1 (pU (Go.Pinned.utf8FirstZ.map λn=>Value.int .u8 ((n:Nat):Int)).toArray)).modify 2 (pU AN)}
theorem AO(os:Os):laidMet prog Rows.fenceBlindUptoRow.laid ((lM os).forCall (λ_ _=>0) ⟨#[],#[.slice none 0 0,.slice none 0 0,.slice none 0 0],[]⟩).memory:=
 laidMet_of_run' 8 (by kernel_rfl) (by kernel_rfl)
theorem xt(os:Os){H:Type}(enc:TypeId×Value->H):∃places,DataW.whole enc prog ((lM os).forCall (λ_ _=>0) ⟨#[],#[.slice none 0 0,.slice none 0 0,.slice none 0 0],[]⟩).memory f4.params.toList Rows.fenceBlindSpec.vars false (#[.slice none 0 0,.slice none 0 0,.slice none 0 0]:Array Value).toList 8=some ([.nil,.nil,.nil],[],places):=
 ⟨[],by kernel_rfl⟩
theorem vZ(os:Os)(started:os.Started)(H:Type)(enc:TypeId×Value->H)(F:Stop.Interp):
  ReturnsInHanded {} Tryz.checked os 4 .any ((Rows.OpenSpec.upto Rows.fenceBlindSpec).preRow enc prog f4 Rows.fenceBlindUptoRow.domain false Rows.fenceBlindUptoRow.laid) (((Rows.OpenSpec.upto Rows.fenceBlindSpec).at F).post enc prog f4 false true false false):=by
 obtain⟨places,hx⟩:=xt os enc;refine returnsInHanded_of_row (C:=Tryz.checked) (s:=Rows.OpenSpec.upto Rows.fenceBlindSpec) AL started (by as_aux_lemma=>kernel_rfl) func4
  (witness_row_at (enc:=enc) (C:=Tryz.checked) false (lM os) #[.slice none 0 0,.slice none 0 0,.slice none 0 0] rfl (by as_aux_lemma=>kernel_rfl) (by as_aux_lemma=>kernel_rfl) (by as_aux_lemma=>kernel_rfl)
   (OpenSpec.preRow_of_cond 8 hx (by as_aux_lemma=>kernel_rfl) (λk hk=>by cases hk;as_aux_lemma=>kernel_rfl) (by as_aux_lemma=>kernel_rfl) (AO os))) ?_
 intro W aB args ds gs before lj hW _ hk _ _ _ _;exact sZ H enc W aB args ds gs before lj (hk _ rfl) hW
theorem xu{a b:Bool}(h:a=true)(g:b=true):(a&&b)=true:=by rw[h,g];rfl
theorem v6:joinedFacts Tryz.pinned.checked.prog 4 f4 (Rows.OpenSpec.upto Rows.fenceBlindSpec).bare Rows.fenceBlindUptoRow=true:=by
 unfold joinedFacts;repeat' with_reducible refine xu ?_ ?_
 all_goals as_aux_lemma=>kernel_rfl
theorem AP:Rows.FenceBlindUptoSaid:=
 OpenClaim.holds_of_cond 4 f4 rfl rfl rfl rfl rfl rfl rfl ⟨rfl,rfl,rfl,rfl,rfl⟩ rfl rfl rfl rfl rfl (by as_aux_lemma=>kernel_rfl) func4 v6
  (of_decide_eq_true (by as_aux_lemma=>kernel_rfl)) (by unfold Func.isWrapper;first|(rw[if_pos (by as_aux_lemma=>decide+kernel)];kernel_rfl)|(rw[if_neg (by as_aux_lemma=>decide+kernel)];exact⟨rfl,rfl⟩))
  (λos started H enc _ F=>by rw[OpenClaim.pre_eq_preRow];exact vZ os started H enc F)
theorem xw(f:FuncId)(fn:Func)(hf:Tryz.pinned.checked.prog.funcNamed f4.name=some f)(Zt:Tryz.pinned.checked.prog.funcs[f]? =some fn):
  false=Tryz.pinned.checked.prog.looks []/\∀(j:Nat)t,fn.params[j]? =some t->Tryz.pinned.checked.prog.wantsStandIn t=false:=by
 obtain rfl:f=4:=adZ ((show prog.funcNamed f4.name=some 4 by kernel_rfl).symm.trans hf)|>.symm
 obtain rfl:fn=f4:=(adZ (func4.symm.trans Zt)).symm;refine⟨by kernel_rfl,λj t ht=>?_⟩
 rw[params4]at ht;have ht:t=22\/t=23:=by have h0:=Array.mem_of_getElem? ht;simp at h0;grind
 rcases ht with rfl|rfl
 .exact(show prog.wantsStandIn 22=false by kernel_rfl)
 .exact(show prog.wantsStandIn 23=false by kernel_rfl)
theorem DC:Rows.FenceBlindUptoCardSaid:=
 Claim7.holds_tied_plain_at .later [] _ _ _ _ AP (λ_ h=>by cases h) (by kernel_rfl) (λ_ h=>by cases h) fenceBlindUpto_row_tie rfl ⟨rfl,rfl⟩ (by kernel_rfl) rfl xw (by kernel_rfl)
end Go.Proofs.YtllkfpggoigbaaaGreatDoor
