/- The law KernSwept, where what it reads is of bulk at most 1048576: whatever the input, it returns true, and the input reads as it did. -/
import Derived.Test.YtojhmadmlnfpcaaGreatDoorS10
import Derived.Test.YtojhmadmlnfpcaaGreatDoorS18
import Derived.Test.YtojhmadmlnfpcaaGreatDoorCards
import Derived.Test.YtojhmadmlnfpcaaGreatDoorTie
import Derived.WalkKit
import Derived.ProofKit
import Derived.OpenShut
import Derived.Deep.DeepHandedRow
import Derived.JoinedCond
import Derived.KernelRfl
set_option linter.unusedVariables false
set_option linter.unusedSimpArgs false
set_option linter.unnecessarySimpa false
set_option maxRecDepth 100000
set_option maxHeartbeats 0
namespace Go.Proofs.YtojhmadmlnfpcaaGreatDoor
open Go.AM Go.ChangeShapes Go.WideShapes Go.ChangeAt Go.RowKit
theorem Qk(e:List Dt)(hf:ig [.i .i64,.i .i64] e):∃a:jP,True/\e=a.enc:=by
 cases hf with|i _ a _ hf=>cases hf with|i _ b _ hf=>cases hf with|nil=>exact⟨⟨a,b⟩,trivial,rfl⟩
theorem qx:∀{l:List (List Dt)}{e:List Dt},e∈l->Dt.fB e<=Dt.dE l
 | [],e,h=>by simp at h
 |x::r,e,h=>by
  simp only[Dt.dE];rcases abo.1 h with rfl|h
  .omega
  .have:=qx h;omega
theorem Ql{elems:List (List Dt)}(h:∀e,e∈elems->ig [.i .i64,.sl [.i .i64,.i .i64]] e):∃l:List cO,elems=l.map cO.enc/\∀p,p∈l->p.bg.length<=Dt.dE elems:=by
 obtain⟨l,_,he⟩:=mt cO.enc (fun _=>True) (fun e hf=>by
  cases hf with|i _ a _ hf=>cases hf with|sl _ em he hf=>cases hf with|nil=>
  obtain⟨ms,_,hm⟩:=mt jP.enc (fun _=>True) Qk he
  subst hm;exact⟨⟨a,ms⟩,trivial,rfl⟩) h
 refine⟨l,he,fun p hp=>?_⟩
 have h1:Dt.fB p.enc<=Dt.dE elems:=qx (by rw[he];exact aaQ.2 ⟨p,hp,rfl⟩)
 have h2:=Dt.kM (p.bg.map jP.enc) fun e hx=>by obtain⟨s,_,rfl⟩:=aaQ.1 hx;simp[jP.enc]
 rw[Nq]at h2;simp only[cO.enc,Dt.fB,Dt.size]at h1;omega
theorem TQ{elems:List (List Dt)}(h:∀e,e∈elems->ig [.i .u8] e):∃l:List Int,elems=gM l/\(∀x,x∈l->0<=x/\x<=255)/\l.length<=Dt.dE elems:=by
 obtain⟨l,hl,he⟩:=mt (fun x:Int=>[Dt.val (.int .u8 x)]) (fun x=>0<=x/\x<=255) (fun e hf=>by
  cases hf with|i _ a ha hf=>cases hf with|nil=>exact⟨a,by simpa[Lit.wf,IntKind.min,IntKind.max,IntKind.signed,IntKind.bits]using ha,rfl⟩) h
 refine⟨l,he,hl,?_⟩;have:=Dt.kM elems fun e hx=>(h e hx).ne aG
 rw[he]at this⊢;simpa using this
theorem TR{elems:List (List Dt)}(h:∀e,e∈elems->ig [.i .i64,.i .i64,.i .i64,.i .i64,.i .i64,.i .i64,.i .i64,.s,.sl [.i .u8]] e)(hb:Dt.dE elems<=1048576):∃l:List Kn.Cl,elems=l.map Kn.Cl.enc/\Kn.Ny l:=by
 obtain⟨l,_,he⟩:=mt Kn.Cl.enc (fun _=>True) (fun e hf=>by
  cases hf with|i _ a1 _ hf=>cases hf with|i _ a2 _ hf=>cases hf with|i _ a3 _ hf=>cases hf with|i _ a4 _ hf=>cases hf with|i _ a5 _ hf=>cases hf with|i _ a6 _ hf=>cases hf with|i _ a7 _ hf=>cases hf with|s x hf=>cases hf with|sl _ em he hf=>cases hf with|nil=>
  obtain⟨d,rfl,-,-⟩:=TQ he;obtain⟨t,rfl⟩:=bP.z6 x;exact⟨⟨a1,a2,a3,a4,a5,a6,a7,t,d⟩,trivial,rfl⟩) h
 refine⟨l,he,⟨?_,fun c hc=>?_⟩⟩
 .have:=Dt.kM elems fun e hx=>(h e hx).ne aG
  rw[he,Nq]at this;rw[he]at hb;omega
 .have h1:Dt.fB c.enc<=Dt.dE elems:=qx (by rw[he];exact aaQ.2 ⟨c,hc,rfl⟩)
  have h2:=Dt.kM (gM c.data) fun e hx=>by obtain⟨s,_,rfl⟩:=aaQ.1 hx;simp
  have h3:(gM c.data).length=c.data.length:=by simp[gM]
  rw[h3]at h2;simp only[Kn.Cl.enc,Dt.fB,Dt.size]at h1;omega
theorem AI:ownKnob Tryz.prog.godebug=none:=by kernel_rfl
theorem xF:laidOutB Tryz.prog=true:=by kernel_rfl
theorem jy{H:Type}(d:DataW H):1<=Rows.uptoBulk d:=by
 cases d with
 |lit l=>cases l<;>simp[Rows.uptoBulk]
 |_=>simp[Rows.uptoBulk]
theorem jg{H:Type}:∀l:List (DataW H),li Rows.uptoBulk l=Rows.uptoBulkAll l
 | []=>by simp[li,Rows.uptoBulkAll]
 |d::r=>by simp[li,Rows.uptoBulkAll,jg r]
def xG(H:Type):OC H where
 f:=Rows.uptoBulk
 str s:=by simp[Rows.uptoBulk]
 lit l:=jy _
 nil:=jy _
 slice a b:=by simp[Rows.uptoBulk,jg]
 agg a:=by simp[Rows.uptoBulk,jg]
def oN:List Sh:=[⟨false,[.sl [.i .i64,.sl [.i .i64,.i .i64]]]⟩,⟨false,[.sl [.i .i64,.i .i64,.i .i64,.i .i64,.i .i64,.i .i64,.i .i64,.s,.sl [.i .u8]]]⟩]
theorem xH:H6 Tryz.prog Tryz.f4.params.toList=some oN:=by kernel_rfl
theorem xI(pV:List (List Dt))(hf:yc oN pV)(hb:Dt.dE pV<=1048576):au Tryz.prog 4 (rc oN pV) [] fun r _=>r=ax true:=by
 cases hf with|cons h1 hf=>
 cases hf with|cons h2 hf=>
 cases hf;cases h1 with|sl _ abl RG h1=>
 cases h1;cases h2 with|sl _ TS oT h2=>
 cases h2;have mj:Dt.dE TS<=1048576:=by simp only[Dt.dE,Dt.fB,Dt.size]at hb;omega
 obtain⟨l,rfl,-⟩:=Ql RG;obtain⟨cs,rfl,eJ⟩:=TR oT mj;exact Kn.NT l cs eJ
theorem rO(H:Type)(enc:TypeId×Value->H)(W:World)(aA:Nat)(args:Array Value)(ds gs:List (DataW H))(before:List MemPlace)(jl:∀(j:Nat)t v,Tryz.f4.params[j]? =some t->args[j]? =some v->Value.okWide Tryz.prog W .any aA t v)(hk:Rows.uptoSmall H (ds++gs)=true)(hW:DataW.Whole enc Tryz.prog Tryz.f4.params.toList Rows.kernSweptSpec.vars false W args.toList ds gs before):
  Calls Tryz.prog 4 args W fun e W'=>∃v,e= .returned v/\Rows.kernSweptSpec.post enc Tryz.prog Tryz.f4 false true false false W args v W':=by
 refine zA (xG H) xF Tryz.underlying4 (by kernel_rfl) rfl ?_ xH (by kernel_rfl) ?_ jl hW
 .intro ds Kw
  match ds,Kw with
  | [d1,d2],_=>rfl
 .intro pV hf dN;refine xI pV hf (abT dN ?_);have h1:Rows.uptoBulkAll (ds++gs)<=1048576:=of_decide_eq_true hk;have h2:∀a b:List (DataW H),Rows.uptoBulkAll a<=Rows.uptoBulkAll (a++b):=by
   intro a b
   induction a with
   |nil=>simp[Rows.uptoBulkAll]
   |cons x r ih=>simp only[adj,Rows.uptoBulkAll];omega
  show li Rows.uptoBulk ds<=1048576;rw[jg];exact abT (h2 ds gs) h1
def oO(vs:Array Value):Go.Obj->Go.Obj
 | .cells _ t pG=>.cells vs t pG
 |o=>o
def AJ:Array Value:= #[.int .u8 128,.int .u8 191,.int .u8 160,.int .u8 191,.int .u8 128,.int .u8 159,.int .u8 144,.int .u8 191,.int .u8 128,.int .u8 143,.int .u8 0,.int .u8 0,.int .u8 0,.int .u8 0,.int .u8 0,.int .u8 0,.int .u8 0,.int .u8 0,.int .u8 0,.int .u8 0,.int .u8 0,.int .u8 0,.int .u8 0,.int .u8 0,.int .u8 0,.int .u8 0,.int .u8 0,.int .u8 0,.int .u8 0,.int .u8 0,.int .u8 0,.int .u8 0]
noncomputable def k8(os:Os):World:=
 {World.holding Tryz.prog os ⟨#[],#[],[]⟩with
  heap:=((World.holding Tryz.prog os ⟨#[],#[],[]⟩).heap.modify 1 (oO (Go.Pinned.utf8FirstZ.map fun n=>Value.int .u8 ((n:Nat):Int)).toArray)).modify 2 (oO AJ)}
theorem AK(os:Os):laidMet Tryz.prog Rows.kernSweptUptoRow.laid ((k8 os).forCall (fun _ _=>0) ⟨#[],#[.slice none 0 0,.slice none 0 0],[]⟩).memory:=
 laidMet_of_run' 8 (by kernel_rfl) (by kernel_rfl)
theorem wT(os:Os){H:Type}(enc:TypeId×Value->H):∃places,DataW.whole enc Tryz.prog ((k8 os).forCall (fun _ _=>0) ⟨#[],#[.slice none 0 0,.slice none 0 0],[]⟩).memory Tryz.f4.params.toList Rows.kernSweptSpec.vars false (#[.slice none 0 0,.slice none 0 0]:Array Value).toList 8=some ([.nil,.nil],[],places):=
 ⟨[],by kernel_rfl⟩
theorem uu(os:Os)(started:os.Started)(H:Type)(enc:TypeId×Value->H)(F:Stop.Interp):
  ReturnsInHanded {} Tryz.checked os 4 .any ((Rows.OpenSpec.upto Rows.kernSweptSpec).preRow enc Tryz.prog Tryz.f4 Rows.kernSweptUptoRow.domain false Rows.kernSweptUptoRow.laid) (((Rows.OpenSpec.upto Rows.kernSweptSpec).at F).post enc Tryz.prog Tryz.f4 false true false false):=by
 obtain⟨places,hx⟩:=wT os enc;refine returnsInHanded_of_row (C:=Tryz.checked) (s:=Rows.OpenSpec.upto Rows.kernSweptSpec) AI started (by as_aux_lemma=>kernel_rfl) Tryz.func4
  (witness_row_at (enc:=enc) (C:=Tryz.checked) false (k8 os) #[.slice none 0 0,.slice none 0 0] rfl (by as_aux_lemma=>kernel_rfl) (by as_aux_lemma=>kernel_rfl) (by as_aux_lemma=>kernel_rfl)
   (OpenSpec.preRow_of_cond 8 hx (by as_aux_lemma=>kernel_rfl) (fun k hk=>by cases hk;as_aux_lemma=>kernel_rfl) (by as_aux_lemma=>kernel_rfl) (AK os))) ?_
 intro W aA args ds gs before jl hW _ hk _ _ _ _;exact rO H enc W aA args ds gs before jl (hk _ rfl) hW
theorem wU{a b:Bool}(h:a=true)(g:b=true):(a&&b)=true:=by rw[h,g];rfl
theorem uv:joinedFacts Tryz.pinned.checked.prog 4 Tryz.f4 (Rows.OpenSpec.upto Rows.kernSweptSpec).bare Rows.kernSweptUptoRow=true:=by
 unfold joinedFacts;repeat' with_reducible refine wU ?_ ?_
 all_goals as_aux_lemma=>kernel_rfl
theorem AL:Rows.KernSweptUptoSaid:=
 OpenClaim.holds_of_cond 4 Tryz.f4 rfl rfl rfl rfl rfl rfl rfl ⟨rfl,rfl,rfl,rfl,rfl⟩ rfl rfl rfl rfl rfl (by as_aux_lemma=>kernel_rfl) Tryz.func4 uv
  (of_decide_eq_true (by as_aux_lemma=>kernel_rfl)) (by unfold Func.isWrapper;first|(rw[if_pos (by as_aux_lemma=>decide+kernel)];kernel_rfl)|(rw[if_neg (by as_aux_lemma=>decide+kernel)];exact⟨rfl,rfl⟩))
  (fun os started H enc _ F=>by rw[OpenClaim.pre_eq_preRow];exact uu os started H enc F)
theorem wV(f:FuncId)(fn:Func)(hf:Tryz.pinned.checked.prog.funcNamed Tryz.f4.name=some f)(YI:Tryz.pinned.checked.prog.funcs[f]? =some fn):
  false=Tryz.pinned.checked.prog.looks []/\∀(j:Nat)t,fn.params[j]? =some t->Tryz.pinned.checked.prog.wantsStandIn t=false:=by
 obtain rfl:f=4:=ac3 ((show Tryz.prog.funcNamed Tryz.f4.name=some 4 by kernel_rfl).symm.trans hf)|>.symm
 obtain rfl:fn=Tryz.f4:=(ac3 (Tryz.func4.symm.trans YI)).symm;refine⟨by kernel_rfl,fun j t ht=>?_⟩
 rw[Tryz.params4]at ht;have ht:t=22\/t=23:=by have h0:=Array.mem_of_getElem? ht;simp at h0;grind
 rcases ht with rfl|rfl
 .exact(show Tryz.prog.wantsStandIn 22=false by kernel_rfl)
 .exact(show Tryz.prog.wantsStandIn 23=false by kernel_rfl)
theorem A2:Rows.KernSweptUptoCardSaid:=
 Claim7.holds_tied_plain_at .later [] _ _ _ _ AL (fun _ h=>by cases h) (by kernel_rfl) (fun _ h=>by cases h) kernSweptUpto_row_tie rfl ⟨rfl,rfl⟩ (by kernel_rfl) rfl wV (by kernel_rfl)
end Go.Proofs.YtojhmadmlnfpcaaGreatDoor
