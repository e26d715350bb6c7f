/- Part 7 of 18. -/
import Derived.Test.YtojhmadmlnfpcaaGreatDoorS06
import Derived.Below
set_option linter.unusedVariables false
set_option linter.unusedSimpArgs false
set_option linter.unnecessarySimpa false
set_option maxRecDepth 100000
set_option maxHeartbeats 0
open Go.RowKit
namespace Go.AM
section
variable {P:Program}
def H4(W:World):bQ:={n:=0,aV:=fun _=>⟨0,0,0,0⟩,S:=fun b=>b<W.heap.size}
theorem OA(W:World):aL (H4 W) [] W where
 n:=rfl
 S _ h:=h
 aQ k h:=by have:=h.fS;simp at this
 inj k k' h:=by have:=h.fS;simp at this
 bk id b h:=by simp at h
 gO id i j esz elems h:=by obtain⟨_,_,_,h,_⟩:=h;simp at h
theorem vr{f:Nat}{args:List CV}{K:CV->Mem->Prop}(h:au P f args [] K)(W:World)(vs:List Value)(hlen:vs.length=args.length)(cw:∀(i:Nat)c,args[i]? =some c->∃v,vs[i]? =some v/\cm (H4 W) W c v):
  Calls P f vs.toArray W fun e w'=>∃v r m' ρ',e= .returned v/\K r m'/\aL ρ' m' w'/\cm ρ' w' r v/\Below W.heap.size W w':=by
 refine(h.2 (H4 W) W vs (OA W) hlen cw).mono ?_;rintro e w' ⟨v,r,m',ρ',rfl,hK,hM,hd,hX⟩;exact⟨v,r,m',ρ',rfl,hK,hM,hd,⟨hX.os,hX.tape,hX.output,hX.size,fun b hb=>hX.frame b hb fun k hk=>by have:=hk.fS;simp at this⟩⟩
theorem nZ{f:Nat}{args:List CV}{K:CV->Mem->Prop}(h:au P f args [] K)(W:World)(vs:List Value)(hlen:vs.length=args.length)(cw:∀(i:Nat)c,args[i]? =some c->∃v,vs[i]? =some v/\cm (H4 W) W c v){u:Value}(hu:u≠.slice none 0 0)(hK:∀r m',K r m'->r= .rv (.one (.aa (.val u)))):
  Calls P f vs.toArray W fun e w'=>e= .returned u/\Below W.heap.size W w':=by
 refine(vr h W vs hlen cw).mono ?_;rintro e w' ⟨v,r,m',ρ',rfl,hk,hM,hd,hb⟩;rw[hK r m' hk]at hd;exact⟨by rw[(bS hd).1],hb⟩
end
end Go.AM
