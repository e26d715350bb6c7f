/- Part 9 of 41: what the law stands on. -/
import Derived.Test.YthagjdhjmamakaaGreatDoorT08
set_option linter.unusedVariables false
set_option linter.unusedSimpArgs false
set_option linter.unnecessarySimpa false
set_option maxRecDepth 100000
set_option maxHeartbeats 64000000
namespace Go.AM
section
variable {P:Program}
theorem ar.mono{f:Nat}{args:List CV}{m:Mem}{K K':CV->Mem->Prop}(h:ar P f args m K)(hK:∀v m',K v m'->K' v m'):ar P f args m K':=
 ⟨h.1,fun ρ w vs hM hl hd=>(h.2 ρ w vs hM hl hd).mono fun e w'⟨v,r,m',ρ',he,hk,pl⟩=>⟨v,r,m',ρ',he,hK _ _ hk,pl⟩⟩
theorem C1{i:I}(hq:qQ i=true){e:List CV}{m:Mem}{K:CV->Mem->Prop}(h:step P i e m K):
  ∃v,K v m/\∀K':CV->Mem->Prop,K' v m->step P i e m K':=by
 cases i<;>simp[qQ,wJ]at hq
 case load agg n a=>
  simp only[step,tU,bc,cj]at h⊢;repeat' split at h
  all_goals(try exact h.elim)
  all_goals grind
 all_goals simp only[step,bc,cj]at h⊢
 all_goals(repeat' split at h)
 all_goals(try exact h.elim)
 all_goals(try(exact⟨_,h,fun _ h=>h⟩))
 all_goals grind
theorem GX{i:I}(hq:wJ i=true){e:List CV}{m:Mem}{K:CV->Mem->Prop}(h:step P i e m K):
  ∃v,K v m/\∀(m':Mem)(K':CV->Mem->Prop),K' v m'->step P i e m' K':=by
 cases i<;>simp[wJ]at hq
 all_goals simp only[step,bc,cj]at h⊢
 all_goals(repeat' split at h)
 all_goals(try exact h.elim)
 all_goals(try(exact⟨_,h,fun _ _ h=>h⟩))
 all_goals grind
theorem wZ{i:I}{e:List CV}{m:Mem}{K K':CV->Mem->Prop}(h:step P i e m K)(hK:∀v m',K v m'->K' v m'):step P i e m K':=by
 cases i
 case call f args=>
  simp only[step]at h⊢;split at h
  .exact h.mono hK
  .exact h.elim
 case load agg n a=>
  simp only[step,tU,bc,cj]at h⊢;repeat' split at h
  all_goals(try exact h.elim)
  all_goals grind
 case len k x=>
  simp only[step,bc,cj]at h⊢;repeat' split at h
  all_goals(try exact h.elim)
  all_goals grind
 all_goals simp only[step,bc,cj,gI,ew]at h⊢
 all_goals(try exact hK _ _ h)
 all_goals(try(repeat' split at h))
 all_goals(try exact h.elim)
 all_goals(try exact hK _ _ h)
 all_goals grind
theorem rb{e e':List CV}:∀{xs:List X},(∀x,x∈xs->x.ev e=x.ev e')->E6 e xs=E6 e' xs
 | [],_=>rfl
 |x::r,h=>by simp only[E6];rw[h x aK,rb fun y hy=>h y (by simp[hy])]
theorem sG{e e':List CV}:∀{ps:List (Nat×Nat×X)}{z:List CC},(∀x,x∈ps.map (fun p=>p.2.2)->x.ev e=x.ev e')->m7 e z ps=m7 e' z ps
 | [],_,_=>rfl
 |(o,s,x)::r,z,h=>by
  simp only[m7];rw[h x aK];have ih:=fun z=>sG (ps:=r) (z:=z) fun y hy=>h y (by simp at hy⊢;exact .inr hy)
  simp only[ih]
theorem sH{e e':List CV}{esz:Nat}:∀{ps:List (Nat×X)}{z:List (List CC)},(∀x,x∈ps.map (fun p=>p.2)->x.ev e=x.ev e')->se e esz z ps=se e' esz z ps
 | [],_,_=>rfl
 |(i,x)::r,z,h=>by
  simp only[se];rw[h x aK];have ih:=fun z=>sH (esz:=esz) (ps:=r) (z:=z) fun y hy=>h y (by simp at hy⊢;exact .inr hy)
  simp only[ih]
theorem C2{i:I}{e e':List CV}{m:Mem}{K:CV->Mem->Prop}(hx:∀x,x∈i.xs->x.ev e=x.ev e')(h:step P i e m K):step P i e' m K:=by
 cases i<;>simp only[I.xs,aad,aaS,or_false,forall_eq_or_imp,forall_eq]at hx
 case build z ps=>simpa only[step,sG hx]using h
 case lu esz z len ps=>simpa only[step,sH hx]using h
 case fn f dN=>simpa only[step,rb hx]using h
 case call f args=>simpa only[step,hx.1,rb hx.2]using h
 case load agg n a=>simpa only[step,tU,hx]using h
 case iS mx xs=>
  rcases xs with _|⟨x,_|⟨y,_|⟨z,r⟩⟩⟩
  .exact h
  .exact h
  .have h1:=hx x aK;have h2:=hx y aK;simpa only[step,h1,h2]using h
  .exact h
 case m6 esz x lo hi mx=>
  have Jq:∀(o:Option X)(d:Nat),(∀y,y∈o.toList->y.ev e=y.ev e')->jE e o d=jE e' o d:=fun o d ho=>by
   cases o with
   |none=>rfl
   |some y=>simp only[jE];rw[ho y aK]
  have hz:∀(o:Option X),(∀y,y∈o.toList->y.ev e=y.ev e')->Cs e o=Cs e' o:=fun o ho=>by
   cases o with
   |none=>rfl
   |some y=>simp only[Cs];rw[ho y aK]
  have h1:∀d,jE e lo d=jE e' lo d:=fun d=>Jq lo d fun y hy=>hx.2 y (by simp[hy])
  have h2:∀d,jE e hi d=jE e' hi d:=fun d=>Jq hi d fun y hy=>hx.2 y (by simp[hy])
  have h3:Cs e hi=Cs e' hi:=hz hi fun y hy=>hx.2 y (by simp[hy])
  cases mx with
  |none=>simpa only[step,hx.1,h1,h2]using h
  |some y=>
   have h4:y.ev e=y.ev e':=hx.2 y aK;simpa only[step,hx.1,h1,h2,h3,h4]using h
 case xZ x lo hi=>
  have Jq:∀(o:Option X)(d:Nat),(∀y,y∈o.toList->y.ev e=y.ev e')->jE e o d=jE e' o d:=fun o d ho=>by
   cases o with
   |none=>rfl
   |some y=>simp only[jE];rw[ho y aK]
  have h1:∀d,jE e lo d=jE e' lo d:=fun d=>Jq lo d fun y hy=>hx.2 y (by simp[hy])
  have h2:∀d,jE e hi d=jE e' hi d:=fun d=>Jq hi d fun y hy=>hx.2 y (by simp[hy])
  simpa only[step,hx.1,h1,h2]using h
 case len k x=>
  match k with
  |0=>simpa only[step,hx]using h
  |1=>simpa only[step,hx]using h
  |2=>simpa only[step,hx]using h
  |k+3=>simpa only[step,hx]using h
 all_goals first
  |(simpa only[step,hx,hx.1,hx.2]using h)
  |(simpa only[step,hx]using h)
  |(simpa only[step]using h)
end
end Go.AM
