/- Part 8 of 16. -/
import Derived.Test.YtodckkkbiidffaaGreatDoorJ07
import Derived.Below
set_option linter.unusedVariables false
set_option linter.unusedSimpArgs false
set_option maxRecDepth 100000
set_option maxHeartbeats 0
open Go.RowKit
namespace Go.AM
section
variable {P:Program}
def JI(W:World):bJ:={n:=0,aI:=λ_=>⟨0,0,0,0⟩,S:=λb=>b<W.heap.size}
theorem QO(W:World):aA (JI W) [] W where
 n:=rfl
 S _ h:=h
 aO k h:=by have:=h.eT;simp at this
 inj k k' h:=by have:=h.eT;simp at this
 bk id b h:=by simp at h
 ei id i j esz elems h:=by obtain⟨_,h,_⟩:=h;simp at h
theorem xd{f:Nat}{args:List CV}{K:CV->Mem->Prop}(h:aq P f args [] K)(W:World)(vs:List Value)(hlen:vs.length=args.length)(cr:∀(i:Nat)c,args[i]? =some c->∃v,vs[i]? =some v/\cf (JI W) W c v):
  Calls P f vs.toArray W λe w'=>∃v r m' U',e= .returned v/\K r m'/\aA U' m' w'/\cf U' w' r v/\Below W.heap.size W w':=by
 refine(h.2 (JI W) W vs (QO W) hlen cr).mono ?_;rintro e w' ⟨v,r,m',U',rfl,hK,hM,hd,hX⟩;exact⟨v,r,m',U',rfl,hK,hM,hd,⟨hX.os,hX.tape,hX.output,hX.size,λb hb=>hX.frame b hb λk hk=>by have:=hk.eT;simp at this⟩⟩
theorem o5{f:Nat}{args:List CV}{K:CV->Mem->Prop}(h:aq P f args [] K)(W:World)(vs:List Value)(hlen:vs.length=args.length)(cr:∀(i:Nat)c,args[i]? =some c->∃v,vs[i]? =some v/\cf (JI W) W c v){u:Value}(hu:u≠.slice none 0 0)(hK:∀r m',K r m'->r= .rv (.one (.ah (.val u)))):
  Calls P f vs.toArray W λe w'=>e= .returned u/\Below W.heap.size W w':=by
 refine(xd h W vs hlen cr).mono ?_;rintro e w' ⟨v,r,m',U',rfl,hk,hM,hd,hb⟩;rw[hK r m' hk]at hd;exact⟨by rw[(bH hd).1],hb⟩
end
end Go.AM
