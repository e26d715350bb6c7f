/- Part 12 of 39: what the law stands on. -/
import Derived.Test.YtodckkkbiidffaaGreatDoorT11
import Derived.Below
set_option linter.unusedVariables false
set_option linter.unusedSimpArgs false
set_option linter.unnecessarySimpa false
set_option maxRecDepth 100000
set_option maxHeartbeats 64000000
open Go.RowKit
namespace Go.AM
section
variable {P:Program}
def FG(W:World):bG:={n:=0,aP:=fun _=>⟨0,0,0,0⟩,S:=fun b=>b<W.heap.size}
theorem Lv(W:World):aA (FG W) [] W where
 n:=rfl
 S _ h:=h
 a7 k h:=by have:=h.fN;simp at this
 inj k k' h:=by have:=h.fN;simp at this
 bk id b h:=by simp at h
 gh id i j esz elems h:=by obtain⟨_,_,_,h,_⟩:=h;simp at h
theorem tI{f:Nat}{args:List CV}{K:CV->Mem->Prop}(h:aq P f args [] K)(W:World)(vs:List Value)(hlen:vs.length=args.length)(bY:∀(i:Nat)c,args[i]? =some c->∃v,vs[i]? =some v/\bV (FG W) W c v):
  Calls P f vs.toArray W fun e w'=>∃v r m' ρ',e= .returned v/\K r m'/\aA ρ' m' w'/\bV ρ' w' r v/\Below W.heap.size W w':=by
 refine(h.2 (FG W) W vs (Lv W) hlen bY).mono ?_;rintro e w' ⟨v,r,m',ρ',rfl,hK,hM,hd,hX⟩;exact⟨v,r,m',ρ',rfl,hK,hM,hd,⟨hX.os,hX.tape,hX.output,hX.size,fun b hb=>hX.frame b hb fun k hk=>by have:=hk.fN;simp at this⟩⟩
theorem mP{f:Nat}{args:List CV}{K:CV->Mem->Prop}(h:aq P f args [] K)(W:World)(vs:List Value)(hlen:vs.length=args.length)(bY:∀(i:Nat)c,args[i]? =some c->∃v,vs[i]? =some v/\bV (FG W) W c v){u:Value}(hu:u≠.slice none 0 0)(hK:∀r m',K r m'->r= .rv (.one (.aa (.val u)))):
  Calls P f vs.toArray W fun e w'=>e= .returned u/\Below W.heap.size W w':=by
 refine(tI h W vs hlen bY).mono ?_;rintro e w' ⟨v,r,m',ρ',rfl,hk,hM,hd,hb⟩;rw[hK r m' hk]at hd;exact⟨by rw[(bJ hd).1],hb⟩
end
end Go.AM
