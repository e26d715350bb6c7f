/- Part 12 of 41: what the law stands on. -/
import Derived.Test.YthagjdhjmamakaaGreatDoorT11
import Derived.Below
set_option linter.unusedVariables false
set_option linter.unusedSimpArgs false
set_option linter.unnecessarySimpa false
set_option maxRecDepth 100000
set_option maxHeartbeats 64000000
open Go.RowKit
namespace Go.AM
section
variable {P:Program}
def G1(W:World):bH:={n:=0,aO:=fun _=>⟨0,0,0,0⟩,S:=fun b=>b<W.heap.size}
theorem MS(W:World):aC (G1 W) [] W where
 n:=rfl
 S _ h:=h
 a8 k h:=by have:=h.fX;simp at this
 inj k k' h:=by have:=h.fX;simp at this
 bk id b h:=by simp at h
 gp id i j esz elems h:=by obtain⟨_,_,_,h,_⟩:=h;simp at h
theorem uw{f:Nat}{args:List CV}{K:CV->Mem->Prop}(h:ar P f args [] K)(W:World)(vs:List Value)(hlen:vs.length=args.length)(bY:∀(i:Nat)c,args[i]? =some c->∃v,vs[i]? =some v/\bW (G1 W) W c v):
  Calls P f vs.toArray W fun e w'=>∃v r m' ρ',e= .returned v/\K r m'/\aC ρ' m' w'/\bW ρ' w' r v/\Below W.heap.size W w':=by
 refine(h.2 (G1 W) W vs (MS W) hlen bY).mono ?_;rintro e w' ⟨v,r,m',ρ',rfl,hK,hM,hd,hX⟩;exact⟨v,r,m',ρ',rfl,hK,hM,hd,⟨hX.os,hX.tape,hX.output,hX.size,fun b hb=>hX.frame b hb fun k hk=>by have:=hk.fX;simp at this⟩⟩
theorem nj{f:Nat}{args:List CV}{K:CV->Mem->Prop}(h:ar P f args [] K)(W:World)(vs:List Value)(hlen:vs.length=args.length)(bY:∀(i:Nat)c,args[i]? =some c->∃v,vs[i]? =some v/\bW (G1 W) W c v){u:Value}(hu:u≠.slice none 0 0)(hK:∀r m',K r m'->r= .rv (.one (.aa (.val u)))):
  Calls P f vs.toArray W fun e w'=>e= .returned u/\Below W.heap.size W w':=by
 refine(uw h W vs hlen bY).mono ?_;rintro e w' ⟨v,r,m',ρ',rfl,hk,hM,hd,hb⟩;rw[hK r m' hk]at hd;exact⟨by rw[(bJ hd).1],hb⟩
end
end Go.AM
