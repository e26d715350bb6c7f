/- Part 8 of 23. -/
import Derived.Test.YtllkfpggoigbaaaGreatDoorW07
import Derived.Below
set_option linter.unusedVariables false
set_option linter.unusedSimpArgs false
set_option linter.unnecessarySimpa false
set_option maxRecDepth 100000
set_option maxHeartbeats 0
open Go.RowKit
namespace Go.AM
section
variable {P:Program}
def LI(W:World):b9:={n:=0,aW:=λ_=>⟨0,0,0,0⟩,S:=λb=>b<W.heap.size}
theorem SZ(W:World):aN (LI W) [] W where
 n:=rfl
 S _ h:=h
 aF k h:=by have:=h.it;simp at this
 inj k k' h:=by have:=h.it;simp at this
 bk id b h:=by simp at h
 jj id i j esz elems h:=by obtain⟨_,_,_,h,_⟩:=h;simp at h
theorem yw{f:Nat}{args:List CV}{K:CV->Mem->Prop}(h:aq P f args [] K)(W:World)(vs:List Value)(hlen:vs.length=args.length)(cL:∀(i:Nat)c,args[i]? =some c->∃v,vs[i]? =some v/\cG (LI W) W c v):
  Calls P f vs.toArray W λe w'=>∃v r m' U',e= .returned v/\K r m'/\aN U' m' w'/\cG U' w' r v/\Below W.heap.size W w':=by
 refine(h.2 (LI W) W vs (SZ W) hlen cL).mono ?_;rintro e w' ⟨v,r,m',U',rfl,hK,hM,hd,hX⟩;exact⟨v,r,m',U',rfl,hK,hM,hd,⟨hX.os,hX.tape,hX.output,hX.size,λb hb=>hX.frame b hb λk hk=>by have:=hk.it;simp at this⟩⟩
theorem qB{f:Nat}{args:List CV}{K:CV->Mem->Prop}(h:aq P f args [] K)(W:World)(vs:List Value)(hlen:vs.length=args.length)(cL:∀(i:Nat)c,args[i]? =some c->∃v,vs[i]? =some v/\cG (LI W) W c v){u:Value}(hu:u≠.slice none 0 0)(hK:∀r m',K r m'->r= .rv (.one (.ai (.val u)))):
  Calls P f vs.toArray W λe w'=>e= .returned u/\Below W.heap.size W w':=by
 refine(yw h W vs hlen cL).mono ?_;rintro e w' ⟨v,r,m',U',rfl,hk,hM,hd,hb⟩;rw[hK r m' hk]at hd;exact⟨by rw[(cf hd).1],hb⟩
end
end Go.AM
