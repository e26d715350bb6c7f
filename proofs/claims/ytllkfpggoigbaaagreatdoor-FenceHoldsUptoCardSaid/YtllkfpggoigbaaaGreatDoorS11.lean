/- Part 11 of 35. -/
import Derived.Test.YtllkfpggoigbaaaGreatDoorS10
import Derived.Below
set_option linter.unusedVariables false
set_option linter.unusedSimpArgs false
set_option linter.unnecessarySimpa false
set_option maxRecDepth 100000
set_option maxHeartbeats 0
open Go.RowKit
namespace Go.AM
section
variable {P:Program}
def KP(W:World):bX:={n:=0,aV:=λ_=>⟨0,0,0,0⟩,S:=λb=>b<W.heap.size}
theorem R0(W:World):aK (KP W) [] W where
 n:=rfl
 S _ h:=h
 aF k h:=by have:=h.gO;simp at this
 inj k k' h:=by have:=h.gO;simp at this
 bk id b h:=by simp at h
 iJ id i j esz elems h:=by obtain⟨_,_,_,h,_⟩:=h;simp at h
theorem xK{f:Nat}{args:List CV}{K:CV->Mem->Prop}(h:ap P f args [] K)(W:World)(vs:List Value)(hlen:vs.length=args.length)(cD:∀(i:Nat)c,args[i]? =some c->∃v,vs[i]? =some v/\cw (KP W) W c v):
  Calls P f vs.toArray W λe w'=>∃v r m' U',e= .returned v/\K r m'/\aK U' m' w'/\cw U' w' r v/\Below W.heap.size W w':=by
 refine(h.2 (KP W) W vs (R0 W) hlen cD).mono ?_;rintro e w' ⟨v,r,m',U',rfl,hK,hM,hd,hX⟩;exact⟨v,r,m',U',rfl,hK,hM,hd,⟨hX.os,hX.tape,hX.output,hX.size,λb hb=>hX.frame b hb λk hk=>by have:=hk.gO;simp at this⟩⟩
theorem pD{f:Nat}{args:List CV}{K:CV->Mem->Prop}(h:ap P f args [] K)(W:World)(vs:List Value)(hlen:vs.length=args.length)(cD:∀(i:Nat)c,args[i]? =some c->∃v,vs[i]? =some v/\cw (KP W) W c v){u:Value}(hu:u≠.slice none 0 0)(hK:∀r m',K r m'->r= .rv (.one (.ai (.val u)))):
  Calls P f vs.toArray W λe w'=>e= .returned u/\Below W.heap.size W w':=by
 refine(xK h W vs hlen cD).mono ?_;rintro e w' ⟨v,r,m',U',rfl,hk,hM,hd,hb⟩;rw[hK r m' hk]at hd;exact⟨by rw[(bY hd).1],hb⟩
end
end Go.AM
