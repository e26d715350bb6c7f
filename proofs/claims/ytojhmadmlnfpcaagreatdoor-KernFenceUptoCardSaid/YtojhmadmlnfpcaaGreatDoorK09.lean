/- Part 9 of 43: what the law stands on. -/
import Derived.Test.YtojhmadmlnfpcaaGreatDoorK08
set_option linter.unusedVariables false
set_option linter.unusedSimpArgs false
set_option linter.unnecessarySimpa false
set_option maxRecDepth 100000
set_option maxHeartbeats 64000000
namespace Go.AM
section
variable {P:Program}
theorem ar.mono{f:Nat}{args:List CV}{m:Mem}{K K':CV->Mem->Prop}(h:ar P f args m K)(hK:∀v m',K v m'->K' v m'):ar P f args m K':=
 ⟨h.1,fun ρ w vs hM hl hd=>(h.2 ρ w vs hM hl hd).mono fun e w'⟨v,r,m',ρ',he,hk,qy⟩=>⟨v,r,m',ρ',he,hK _ _ hk,qy⟩⟩
theorem Es{i:I}(hq:rW i=true){e:List CV}{m:Mem}{K:CV->Mem->Prop}(h:step P i e m K):
  ∃v,K v m/\∀K':CV->Mem->Prop,K' v m->step P i e m K':=by
 cases i<;>simp[rW,yl]at hq
 case load agg n a=>
  simp only[step,u4,be,ct]at h⊢;repeat' split at h
  all_goals(try exact h.elim)
  all_goals grind
 all_goals simp only[step,be,ct]at h⊢
 all_goals(repeat' split at h)
 all_goals(try exact h.elim)
 all_goals(try(exact⟨_,h,fun _ h=>h⟩))
 all_goals grind
theorem Iu{i:I}(hq:yl i=true){e:List CV}{m:Mem}{K:CV->Mem->Prop}(h:step P i e m K):
  ∃v,K v m/\∀(m':Mem)(K':CV->Mem->Prop),K' v m'->step P i e m' K':=by
 cases i<;>simp[yl]at hq
 all_goals simp only[step,be,ct]at h⊢
 all_goals(repeat' split at h)
 all_goals(try exact h.elim)
 all_goals(try(exact⟨_,h,fun _ _ h=>h⟩))
 all_goals grind
theorem yF{i:I}{e:List CV}{m:Mem}{K K':CV->Mem->Prop}(h:step P i e m K)(hK:∀v m',K v m'->K' v m'):step P i e m K':=by
 cases i
 case call f args=>
  simp only[step]at h⊢;split at h
  .exact h.mono hK
  .exact h.elim
 case load agg n a=>
  simp only[step,u4,be,ct]at h⊢;repeat' split at h
  all_goals(try exact h.elim)
  all_goals grind
 case len k x=>
  simp only[step,be,ct]at h⊢;repeat' split at h
  all_goals(try exact h.elim)
  all_goals grind
 all_goals simp only[step,be,ct,ip,eU]at h⊢
 all_goals(try exact hK _ _ h)
 all_goals(try(repeat' split at h))
 all_goals(try exact h.elim)
 all_goals(try exact hK _ _ h)
 all_goals grind
theorem sj{e e':List CV}:∀{xs:List X},(∀x,x∈xs->x.ev e=x.ev e')->GC e xs=GC e' xs
 | [],_=>rfl
 |x::r,h=>by simp only[GC];rw[h x aG,sj fun y hy=>h y (by simp[hy])]
theorem tR{e e':List CV}:∀{ps:List (Nat×Nat×X)}{z:List CC},(∀x,x∈ps.map (fun p=>p.2.2)->x.ev e=x.ev e')->nP e z ps=nP e' z ps
 | [],_,_=>rfl
 |(o,s,x)::r,z,h=>by
  simp only[nP];rw[h x aG];have ih:=fun z=>tR (ps:=r) (z:=z) fun y hy=>h y (by simp at hy⊢;exact .inr hy)
  simp only[ih]
theorem tS{e e':List CV}{esz:Nat}:∀{ps:List (Nat×X)}{z:List (List CC)},(∀x,x∈ps.map (fun p=>p.2)->x.ev e=x.ev e')->tx e esz z ps=tx e' esz z ps
 | [],_,_=>rfl
 |(i,x)::r,z,h=>by
  simp only[tx];rw[h x aG];have ih:=fun z=>tS (esz:=esz) (ps:=r) (z:=z) fun y hy=>h y (by simp at hy⊢;exact .inr hy)
  simp only[ih]
theorem Et{i:I}{e e':List CV}{m:Mem}{K:CV->Mem->Prop}(hx:∀x,x∈i.xs->x.ev e=x.ev e')(h:step P i e m K):step P i e' m K:=by
 cases i<;>simp only[I.xs,aaJ,abB,or_false,forall_eq_or_imp,forall_eq]at hx
 case build z ps=>simpa only[step,tR hx]using h
 case mh esz z len ps=>simpa only[step,tS hx]using h
 case fn f ew=>simpa only[step,sj hx]using h
 case call f args=>simpa only[step,hx.1,sj hx.2]using h
 case load agg n a=>simpa only[step,u4,hx]using h
 case jA mx xs=>
  rcases xs with _|⟨x,_|⟨y,_|⟨z,r⟩⟩⟩
  .exact h
  .exact h
  .have h1:=hx x aG;have h2:=hx y aG;simpa only[step,h1,h2]using h
  .exact h
 case nN esz x lo hi mx=>
  have K6:∀(o:Option X)(d:Nat),(∀y,y∈o.toList->y.ev e=y.ev e')->kG e o d=kG e' o d:=fun o d ho=>by
   cases o with
   |none=>rfl
   |some y=>simp only[kG];rw[ho y aG]
  have hz:∀(o:Option X),(∀y,y∈o.toList->y.ev e=y.ev e')->DT e o=DT e' o:=fun o ho=>by
   cases o with
   |none=>rfl
   |some y=>simp only[DT];rw[ho y aG]
  have h1:∀d,kG e lo d=kG e' lo d:=fun d=>K6 lo d fun y hy=>hx.2 y (by simp[hy])
  have h2:∀d,kG e hi d=kG e' hi d:=fun d=>K6 hi d fun y hy=>hx.2 y (by simp[hy])
  have h3:DT e hi=DT e' hi:=hz hi fun y hy=>hx.2 y (by simp[hy])
  cases mx with
  |none=>simpa only[step,hx.1,h1,h2]using h
  |some y=>
   have h4:y.ev e=y.ev e':=hx.2 y aG;simpa only[step,hx.1,h1,h2,h3,h4]using h
 case HX x lo hi=>
  have K6:∀(o:Option X)(d:Nat),(∀y,y∈o.toList->y.ev e=y.ev e')->kG e o d=kG e' o d:=fun o d ho=>by
   cases o with
   |none=>rfl
   |some y=>simp only[kG];rw[ho y aG]
  have h1:∀d,kG e lo d=kG e' lo d:=fun d=>K6 lo d fun y hy=>hx.2 y (by simp[hy])
  have h2:∀d,kG e hi d=kG e' hi d:=fun d=>K6 hi d fun y hy=>hx.2 y (by simp[hy])
  simpa only[step,hx.1,h1,h2]using h
 case len k x=>
  match k with
  |0=>simpa only[step,hx]using h
  |1=>simpa only[step,hx]using h
  |2=>simpa only[step,hx]using h
  |k+3=>simpa only[step,hx]using h
 all_goals first
  |(simpa only[step,hx,hx.1,hx.2]using h)
  |(simpa only[step,hx]using h)
  |(simpa only[step]using h)
end
end Go.AM
