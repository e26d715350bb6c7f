/- Part 8 of 16. -/
import Derived.Test.YtodckkkbiidffaaGreatDoorH07
import Derived.Below
set_option linter.unusedVariables false
set_option linter.unusedSimpArgs false
set_option maxRecDepth 100000
set_option maxHeartbeats 0
open Go.RowKit
namespace Go.AM
section
variable {P:Program}
def I9(W:World):bG:={n:=0,aH:=λ_=>⟨0,0,0,0⟩,S:=λb=>b<W.heap.size}
theorem PX(W:World):ax (I9 W) [] W where
 n:=rfl
 S _ h:=h
 aP k h:=by have:=h.eK;simp at this
 inj k k' h:=by have:=h.eK;simp at this
 bk id b h:=by simp at h
 d5 id i j esz elems h:=by obtain⟨_,h,_⟩:=h;simp at h
theorem wD{f:Nat}{args:List CV}{K:CV->Mem->Prop}(h:ap P f args [] K)(W:World)(vs:List Value)(hlen:vs.length=args.length)(cg:∀(i:Nat)c,args[i]? =some c->∃v,vs[i]? =some v/\bZ (I9 W) W c v):
  Calls P f vs.toArray W λe w'=>∃v r m' U',e= .returned v/\K r m'/\ax U' m' w'/\bZ U' w' r v/\Below W.heap.size W w':=by
 refine(h.2 (I9 W) W vs (PX W) hlen cg).mono ?_;rintro e w' ⟨v,r,m',U',rfl,hK,hM,hd,hX⟩;exact⟨v,r,m',U',rfl,hK,hM,hd,⟨hX.os,hX.tape,hX.output,hX.size,λb hb=>hX.frame b hb λk hk=>by have:=hk.eK;simp at this⟩⟩
theorem oN{f:Nat}{args:List CV}{K:CV->Mem->Prop}(h:ap P f args [] K)(W:World)(vs:List Value)(hlen:vs.length=args.length)(cg:∀(i:Nat)c,args[i]? =some c->∃v,vs[i]? =some v/\bZ (I9 W) W c v){u:Value}(hu:u≠.slice none 0 0)(hK:∀r m',K r m'->r= .rv (.one (.ah (.val u)))):
  Calls P f vs.toArray W λe w'=>e= .returned u/\Below W.heap.size W w':=by
 refine(wD h W vs hlen cg).mono ?_;rintro e w' ⟨v,r,m',U',rfl,hk,hM,hd,hb⟩;rw[hK r m' hk]at hd;exact⟨by rw[(bC hd).1],hb⟩
end
end Go.AM
