/- Part 9 of 39: what the law stands on. -/
import Derived.Test.YtodckkkbiidffaaGreatDoorT08
set_option linter.unusedVariables false
set_option linter.unusedSimpArgs false
set_option linter.unnecessarySimpa false
set_option maxRecDepth 100000
set_option maxHeartbeats 64000000
namespace Go.AM
section
variable {P:Program}
theorem aq.mono{f:Nat}{args:List CV}{m:Mem}{K K':CV->Mem->Prop}(h:aq P f args m K)(hK:∀v m',K v m'->K' v m'):aq P f args m K':=
 ⟨h.1,fun ρ w vs hM hl hd=>(h.2 ρ w vs hM hl hd).mono fun e w'⟨v,r,m',ρ',he,hk,oS⟩=>⟨v,r,m',ρ',he,hK _ _ hk,oS⟩⟩
theorem BT{i:I}(hq:p6 i=true){e:List CV}{m:Mem}{K:CV->Mem->Prop}(h:step P i e m K):
  ∃v,K v m/\∀K':CV->Mem->Prop,K' v m->step P i e m K':=by
 cases i<;>simp[p6,vC]at hq
 case load agg n a=>
  simp only[step,sZ,bc,cg]at h⊢;repeat' split at h
  all_goals(try exact h.elim)
  all_goals grind
 all_goals simp only[step,bc,cg]at h⊢
 all_goals(repeat' split at h)
 all_goals(try exact h.elim)
 all_goals(try(exact⟨_,h,fun _ h=>h⟩))
 all_goals grind
theorem FC{i:I}(hq:vC i=true){e:List CV}{m:Mem}{K:CV->Mem->Prop}(h:step P i e m K):
  ∃v,K v m/\∀(m':Mem)(K':CV->Mem->Prop),K' v m'->step P i e m' K':=by
 cases i<;>simp[vC]at hq
 all_goals simp only[step,bc,cg]at h⊢
 all_goals(repeat' split at h)
 all_goals(try exact h.elim)
 all_goals(try(exact⟨_,h,fun _ _ h=>h⟩))
 all_goals grind
theorem vV{i:I}{e:List CV}{m:Mem}{K K':CV->Mem->Prop}(h:step P i e m K)(hK:∀v m',K v m'->K' v m'):step P i e m K':=by
 cases i
 case call f args=>
  simp only[step]at h⊢;split at h
  .exact h.mono hK
  .exact h.elim
 case load agg n a=>
  simp only[step,sZ,bc,cg]at h⊢;repeat' split at h
  all_goals(try exact h.elim)
  all_goals grind
 case len k x=>
  simp only[step,bc,cg]at h⊢;repeat' split at h
  all_goals(try exact h.elim)
  all_goals grind
 all_goals simp only[step,bc,cg,gy,ei]at h⊢
 all_goals(try exact hK _ _ h)
 all_goals(try(repeat' split at h))
 all_goals(try exact h.elim)
 all_goals(try exact hK _ _ h)
 all_goals grind
theorem qx{e e':List CV}:∀{xs:List X},(∀x,x∈xs->x.ev e=x.ev e')->DN e xs=DN e' xs
 | [],_=>rfl
 |x::r,h=>by simp only[DN];rw[h x aI,qx fun y hy=>h y (by simp[hy])]
theorem rM{e e':List CV}:∀{ps:List (Nat×Nat×X)}{z:List CC},(∀x,x∈ps.map (fun p=>p.2.2)->x.ev e=x.ev e')->mF e z ps=mF e' z ps
 | [],_,_=>rfl
 |(o,s,x)::r,z,h=>by
  simp only[mF];rw[h x aI];have ih:=fun z=>rM (ps:=r) (z:=z) fun y hy=>h y (by simp at hy⊢;exact .inr hy)
  simp only[ih]
theorem rN{e e':List CV}{esz:Nat}:∀{ps:List (Nat×X)}{z:List (List CC)},(∀x,x∈ps.map (fun p=>p.2)->x.ev e=x.ev e')->rx e esz z ps=rx e' esz z ps
 | [],_,_=>rfl
 |(i,x)::r,z,h=>by
  simp only[rx];rw[h x aI];have ih:=fun z=>rN (esz:=esz) (ps:=r) (z:=z) fun y hy=>h y (by simp at hy⊢;exact .inr hy)
  simp only[ih]
theorem BU{i:I}{e e':List CV}{m:Mem}{K:CV->Mem->Prop}(hx:∀x,x∈i.xs->x.ev e=x.ev e')(h:step P i e m K):step P i e' m K:=by
 cases i<;>simp only[I.xs,aaf,abf,or_false,forall_eq_or_imp,forall_eq]at hx
 case build z ps=>simpa only[step,rM hx]using h
 case l5 esz z len ps=>simpa only[step,rN hx]using h
 case fn f dJ=>simpa only[step,qx hx]using h
 case call f args=>simpa only[step,hx.1,qx hx.2]using h
 case load agg n a=>simpa only[step,sZ,hx]using h
 case hC mx xs=>
  rcases xs with _|⟨x,_|⟨y,_|⟨z,r⟩⟩⟩
  .exact h
  .exact h
  .have h1:=hx x aI;have h2:=hx y aI;simpa only[step,h1,h2]using h
  .exact h
 case mD esz x lo hi mx=>
  have H8:∀(o:Option X)(d:Nat),(∀y,y∈o.toList->y.ev e=y.ev e')->jr e o d=jr e' o d:=fun o d ho=>by
   cases o with
   |none=>rfl
   |some y=>simp only[jr];rw[ho y aI]
  have hz:∀(o:Option X),(∀y,y∈o.toList->y.ev e=y.ev e')->Bn e o=Bn e' o:=fun o ho=>by
   cases o with
   |none=>rfl
   |some y=>simp only[Bn];rw[ho y aI]
  have h1:∀d,jr e lo d=jr e' lo d:=fun d=>H8 lo d fun y hy=>hx.2 y (by simp[hy])
  have h2:∀d,jr e hi d=jr e' hi d:=fun d=>H8 hi d fun y hy=>hx.2 y (by simp[hy])
  have h3:Bn e hi=Bn e' hi:=hz hi fun y hy=>hx.2 y (by simp[hy])
  cases mx with
  |none=>simpa only[step,hx.1,h1,h2]using h
  |some y=>
   have h4:y.ev e=y.ev e':=hx.2 y aI;simpa only[step,hx.1,h1,h2,h3,h4]using h
 case Bl x lo hi=>
  have H8:∀(o:Option X)(d:Nat),(∀y,y∈o.toList->y.ev e=y.ev e')->jr e o d=jr e' o d:=fun o d ho=>by
   cases o with
   |none=>rfl
   |some y=>simp only[jr];rw[ho y aI]
  have h1:∀d,jr e lo d=jr e' lo d:=fun d=>H8 lo d fun y hy=>hx.2 y (by simp[hy])
  have h2:∀d,jr e hi d=jr e' hi d:=fun d=>H8 hi d fun y hy=>hx.2 y (by simp[hy])
  simpa only[step,hx.1,h1,h2]using h
 case len k x=>
  match k with
  |0=>simpa only[step,hx]using h
  |1=>simpa only[step,hx]using h
  |2=>simpa only[step,hx]using h
  |k+3=>simpa only[step,hx]using h
 all_goals first
  |(simpa only[step,hx,hx.1,hx.2]using h)
  |(simpa only[step,hx]using h)
  |(simpa only[step]using h)
end
end Go.AM
