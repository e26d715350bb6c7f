/- Part 12 of 43: what the law stands on. -/
import Derived.Test.YtojhmadmlnfpcaaGreatDoorK11
import Derived.Below
set_option linter.unusedVariables false
set_option linter.unusedSimpArgs false
set_option linter.unnecessarySimpa false
set_option maxRecDepth 100000
set_option maxHeartbeats 64000000
open Go.RowKit
namespace Go.AM
section
variable {P:Program}
def Iy(W:World):bL:={n:=0,aR:=fun _=>⟨0,0,0,0⟩,S:=fun b=>b<W.heap.size}
theorem ON(W:World):aH (Iy W) [] W where
 n:=rfl
 S _ h:=h
 aV k h:=by have:=h.gB;simp at this
 inj k k' h:=by have:=h.gB;simp at this
 bk id b h:=by simp at h
 gX id i j esz elems h:=by obtain⟨_,_,_,h,_⟩:=h;simp at h
theorem vG{f:Nat}{args:List CV}{K:CV->Mem->Prop}(h:ar P f args [] K)(W:World)(vs:List Value)(hlen:vs.length=args.length)(cj:∀(i:Nat)c,args[i]? =some c->∃v,vs[i]? =some v/\b8 (Iy W) W c v):
  Calls P f vs.toArray W fun e w'=>∃v r m' ρ',e= .returned v/\K r m'/\aH ρ' m' w'/\b8 ρ' w' r v/\Below W.heap.size W w':=by
 refine(h.2 (Iy W) W vs (ON W) hlen cj).mono ?_;rintro e w' ⟨v,r,m',ρ',rfl,hK,hM,hd,hX⟩;exact⟨v,r,m',ρ',rfl,hK,hM,hd,⟨hX.os,hX.tape,hX.output,hX.size,fun b hb=>hX.frame b hb fun k hk=>by have:=hk.gB;simp at this⟩⟩
theorem nZ{f:Nat}{args:List CV}{K:CV->Mem->Prop}(h:ar P f args [] K)(W:World)(vs:List Value)(hlen:vs.length=args.length)(cj:∀(i:Nat)c,args[i]? =some c->∃v,vs[i]? =some v/\b8 (Iy W) W c v){u:Value}(hu:u≠.slice none 0 0)(hK:∀r m',K r m'->r= .rv (.one (.aa (.val u)))):
  Calls P f vs.toArray W fun e w'=>e= .returned u/\Below W.heap.size W w':=by
 refine(vG h W vs hlen cj).mono ?_;rintro e w' ⟨v,r,m',ρ',rfl,hk,hM,hd,hb⟩;rw[hK r m' hk]at hd;exact⟨by rw[(bM hd).1],hb⟩
end
end Go.AM
