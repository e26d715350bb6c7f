import Derived.Test.YtbemknkbegkflaaAmU
import Derived.Test.YtbemknkbegkflaaAmY
set_option linter.unusedVariables false
set_option linter.unusedSimpArgs false
set_option linter.unnecessarySimpa false
/-! A call that only looks at what it is handed, and answers plain values. -/
namespace Go.AM
section
variable {P : Program}
def CC.plainB : CC → Bool
  | .dat (.val _) => true
  | _ => false
def plainL : List CC → Bool
  | [] => true
  | c :: r => c.plainB && plainL r
def RV.plainB : RV → Bool
  | .one c => c.plainB
  | .agg cs => plainL cs
def plainRs : List RV → Bool
  | [] => true
  | c :: r => c.plainB && plainRs r
def CV.plainB : CV → Bool
  | .rv r => r.plainB
  | .tup rs => plainRs rs
  | _ => false
theorem plainL_get : ∀ {l : List CC}, plainL l = true → ∀ c, c ∈ l → c.plainB = true
  | [], _, c, h => by simp at h
  | x :: r, h, c, hc => by
    simp only [plainL, Bool.and_eq_true] at h
    rcases List.mem_cons.1 hc with rfl | hc
    · exact h.1
    · exact plainL_get h.2 c hc
theorem plainRs_get : ∀ {l : List RV}, plainRs l = true → ∀ c, c ∈ l → c.plainB = true
  | [], _, c, h => by simp at h
  | x :: r, h, c, hc => by
    simp only [plainRs, Bool.and_eq_true] at h
    rcases List.mem_cons.1 hc with rfl | hc
    · exact h.1
    · exact plainRs_get h.2 c hc
theorem CC.plain_den {ρ ρ' : Rho} {w : World} {c : CC} {v : Value} (h : c.plainB = true) (hd : DenC ρ w .none c v) : DenC ρ' w .none c v := by
  cases c with
  | dat d =>
    cases d with
    | val x =>
      cases hd with
      | val v hp => exact .val _ hp
      | no a => exact .no a
    | sl => simp [CC.plainB] at h
  | _ => simp [CC.plainB] at h
theorem RV.plain_den {ρ ρ' : Rho} {w : World} {c : RV} {v : Value} (h : c.plainB = true) (hd : DenR ρ w c v) : DenR ρ' w c v := by
  cases c with
  | one c => exact CC.plain_den h hd
  | agg cs =>
    obtain ⟨vs, rfl, h1, h2⟩ := hd
    exact ⟨vs, rfl, h1, fun i c hi => let ⟨u, hu, hd⟩ := h2 i c hi; ⟨u, hu, CC.plain_den (plainL_get h c (List.mem_of_getElem? hi)) hd⟩⟩
theorem CV.plain_den {ρ ρ' : Rho} {w : World} {c : CV} {v : Value} (h : c.plainB = true) (hd : DenV ρ w c v) : DenV ρ' w c v := by
  cases c with
  | rv r => exact RV.plain_den h hd
  | tup rs =>
    obtain ⟨vs, rfl, h1, h2⟩ := hd
    exact ⟨vs, rfl, h1, fun i c hi => let ⟨u, hu, hd⟩ := h2 i c hi; ⟨u, hu, RV.plain_den (plainRs_get h c (List.mem_of_getElem? hi)) hd⟩⟩
  | _ => simp [CV.plainB] at h

/-- **A CALL THAT ONLY LOOKS**: blocks F are as data while it runs -/
theorem acall_ro {f : Nat} {args args0 : List CV} {m : Mem} {K0 K : CV → Mem → Prop} (F : List Nat) (h : ACall P f args0 [] K0)
    (hargs : EnvVw (sg [] m.length) m (fun k => memN F k = true) args args0)
    (hK : ∀ r m1, K0 r m1 → r.plainB = true ∧ K r m) : ACall P f args m K := by
  refine ⟨h.1, fun ρ w vs hM hvl hvd => ?_⟩
  have hout : ∀ i, sg [] m.length i < m.length → i < 0 := fun i h => by simp [sg, nth] at h; omega
  obtain ⟨hM0, hC0, _⟩ := vw_core (n0 := 0) (σ := sg [] m.length) (Z := fun k => memN F k = true) (m' := []) hM (fun i h => absurd h (Nat.not_lt_zero i)) (fun i j h _ _ => absurd h (Nat.not_lt_zero i)) hout (fun i b' h => by simp at h)
  refine (h.2 _ w vs hM0 (hvl.trans hargs.len.symm) fun i c hi => ?_).mono fun e w' ⟨v, r, m1, ρ1, he, hk, hM1, hd1, hx⟩ => ?_
  · obtain ⟨c0, hc0, hv⟩ := hargs.get i c hi
    obtain ⟨v, hv2, hd⟩ := hvd i c0 hc0
    exact ⟨v, hv2, hv.den hM hout hd⟩
  · obtain ⟨hp, hK'⟩ := hK r m1 hk
    have hnl : ∀ k, ¬ Live (ρ.vw (sg [] m.length) (fun k => memN F k = true) m 0) [] k := fun k h => by have := h.id_lt; simp at this
    have hwid : Wider w w' := ⟨fun b hb => hx.frame b hb fun k hk => absurd hk (hnl k), hx.size, hx.os, hx.tape, hx.output⟩
    obtain ⟨h1, h2⟩ := hM.wider hwid
    exact ⟨v, r, m, ρ, he, hK', h1, CV.plain_den hp hd1, h2⟩
end
end Go.AM
