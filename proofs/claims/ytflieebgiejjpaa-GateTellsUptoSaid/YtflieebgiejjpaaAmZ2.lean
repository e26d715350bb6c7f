import Derived.Test.YtflieebgiejjpaaAmZ1
set_option linter.unusedVariables false
set_option linter.unusedSimpArgs false
set_option linter.unnecessarySimpa false
/-! A call that looks at one variable of its caller's. -/
namespace Go.AM
section
variable {P : Program}

theorem CC.ren_isD {σ : Nat → Nat} {c : CC} (h : c.isD = true) : c.ren σ = c := by
  cases c
  case fn f caps =>
    cases caps with
    | nil => rfl
    | cons c r => simp [CC.isD] at h
  all_goals first | rfl | simp [CC.isD] at h
theorem RV.ren_isD {σ : Nat → Nat} {r : RV} (h : r.isD = true) : r.ren σ = r := by
  cases r with
  | one c => exact congrArg RV.one (CC.ren_isD h)
  | agg cs =>
    refine congrArg RV.agg ?_
    conv => rhs; rw [← List.map_id cs]
    exact List.map_congr_left fun c hc => CC.ren_isD (List.all_eq_true.1 h c hc)
theorem CV.ren_isDT {σ : Nat → Nat} {v : CV} (h : v.isDT = true) : v.ren σ = v := by
  cases v with
  | rv r => exact congrArg CV.rv (RV.ren_isD h)
  | tup rs =>
    refine congrArg CV.tup ?_
    conv => rhs; rw [← List.map_id rs]
    exact List.map_congr_left fun c hc => RV.ren_isD (List.all_eq_true.1 h c hc)
  | _ => rfl
theorem Bk.ren_varD {σ : Nat → Nat} (ds : List Dt) : (Bk.var (ds.map .dat)).ren σ = .var (ds.map .dat) := by
  simp [Bk.ren, CC.ren, Function.comp_def]
theorem weave_same {m : Mem} {id : Nat} {b : Bk} (h : nth m id = some b) : weave m [id] [b] = m := by
  rw [nth_eq] at h
  simp only [weave, app2_eq, List.append_nil, setN_eq]
  exact List.ext_getElem? fun i => by
    rw [List.getElem?_set]
    split
    · rename_i hi
      subst hi
      have := (List.getElem?_eq_some_iff.1 h).1
      rw [if_pos this, h]
    · rfl
/-- a call that borrows one variable, and leaves it as it was -/
theorem acall_look {f : Nat} {args args0 : List CV} {m : Mem} {cs : List Dt} {r0 : CV} {K : CV → Mem → Prop} (id : Nat) (hb : nth m id = some (.var (cs.map .dat))) (hargs : args = args0.map (CV.ren (sg [id] m.length)))
    (hr : r0.isDT = true) (h : ∀ K : CV → Mem → Prop, K r0 [.var (cs.map .dat)] → ACall P f args0 [.var (cs.map .dat)] K) (hK : K r0 m) : ACall P f args m K := by
  have hid : id < m.length := by
    rw [nth_eq] at hb
    exact (List.getElem?_eq_some_iff.1 hb).1
  refine acall_borrow (K0 := fun r m1 => r = r0 ∧ m1 = [.var (cs.map .dat)]) [id] m.length rfl rfl rfl ?_ hargs (fun i b' hi => ?_) (h _ ⟨rfl, rfl⟩) (fun r m1 hr1 => ?_)
  · simp [allLt, hid]
  · cases i with
    | zero =>
      simp at hi
      subst hi
      refine .inr ⟨fun h => h, .var (cs.map .dat), ?_, .varDE rfl⟩
      rw [nth_eq] at hb
      exact hb
    | succ i => simp at hi
  · obtain ⟨rfl, rfl⟩ := hr1
    refine ⟨Nat.le_refl _, ?_⟩
    rw [CV.ren_isDT hr]
    have : weave m [id] (renM (sg [id] m.length) [.var (cs.map .dat)]) = m := by
      show weave m [id] [Bk.ren _ _] = m
      rw [Bk.ren_varD]
      exact weave_same hb
    rw [this]
    exact hK
/-- of what a call left in memory only the one variable is told -/
theorem acall_trim {f : Nat} {args : List CV} {cs : List Dt} {r0 : CV} {K : CV → Mem → Prop} (hr : r0.isDT = true)
    (h : ACall P f args [.var (cs.map .dat)] fun r m => r = r0 ∧ ∃ ex, m = .var (cs.map .dat) :: ex) (hK : K r0 [.var (cs.map .dat)]) : ACall P f args [.var (cs.map .dat)] K := by
  refine acall_view h fun r m1 ⟨h1, ex, h2⟩ => ⟨r0, [.var (cs.map .dat)], ?_, hK⟩
  subst h1; subst h2
  refine View.of (ex.length + 1) [0] [] (by simp) rfl rfl rfl rfl (by simp [allLt]) ?_ ?_
  · exact .eq (CV.ren_isDT hr) .nil
  · exact .put (by simp [memN]) rfl (.varDE rfl) (.nil _)
end
end Go.AM
