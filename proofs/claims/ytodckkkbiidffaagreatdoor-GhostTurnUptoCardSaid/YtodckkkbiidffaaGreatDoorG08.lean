/- Part 8 of 16. -/
import Derived.Test.YtodckkkbiidffaaGreatDoorG07
import Derived.Below
set_option linter.unusedVariables false
set_option linter.unusedSimpArgs false
set_option maxRecDepth 100000
set_option maxHeartbeats 0
open Go.RowKit
namespace Go.AM
section
variable {P:Program}
def Iu(W:World):bF:={n:=0,aH:=λ_=>⟨0,0,0,0⟩,S:=λb=>b<W.heap.size}
theorem Pg(W:World):au (Iu W) [] W where
 n:=rfl
 S _ h:=h
 aQ k h:=by have:=h.eC;simp at this
 inj k k' h:=by have:=h.eC;simp at this
 bk id b h:=by simp at h
 dV id i j esz elems h:=by obtain⟨_,h,_⟩:=h;simp at h
theorem we{f:Nat}{args:List CV}{K:CV->Mem->Prop}(h:aq P f args [] K)(W:World)(vs:List Value)(hlen:vs.length=args.length)(cq:∀(i:Nat)c,args[i]? =some c->∃v,vs[i]? =some v/\bZ (Iu W) W c v):
  Calls P f vs.toArray W λe w'=>∃v r m' U',e= .returned v/\K r m'/\au U' m' w'/\bZ U' w' r v/\Below W.heap.size W w':=by
 refine(h.2 (Iu W) W vs (Pg W) hlen cq).mono ?_;rintro e w' ⟨v,r,m',U',rfl,hK,hM,hd,hX⟩;exact⟨v,r,m',U',rfl,hK,hM,hd,⟨hX.os,hX.tape,hX.output,hX.size,λb hb=>hX.frame b hb λk hk=>by have:=hk.eC;simp at this⟩⟩
theorem ou{f:Nat}{args:List CV}{K:CV->Mem->Prop}(h:aq P f args [] K)(W:World)(vs:List Value)(hlen:vs.length=args.length)(cq:∀(i:Nat)c,args[i]? =some c->∃v,vs[i]? =some v/\bZ (Iu W) W c v){u:Value}(hu:u≠.slice none 0 0)(hK:∀r m',K r m'->r= .rv (.one (.aa (.val u)))):
  Calls P f vs.toArray W λe w'=>e= .returned u/\Below W.heap.size W w':=by
 refine(we h W vs hlen cq).mono ?_;rintro e w' ⟨v,r,m',U',rfl,hk,hM,hd,hb⟩;rw[hK r m' hk]at hd;exact⟨by rw[(bJ hd).1],hb⟩
end
end Go.AM
