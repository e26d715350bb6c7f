import Derived.Test.YtbemknkbegkflaaAmQ
import Derived.Carry
import Derived.ProofKit
set_option linter.unusedVariables false
set_option linter.unusedSimpArgs false
set_option linter.unnecessarySimpa false
/-! A law whose arguments are data, and which returns true. -/
namespace Go.AM
open Go.ChangeShapes Go.WideShapes Go.ChangeAt Go.RowKit
section
variable {H : Type} {enc : TypeId × Value → H} {P : Program} {W : World}

theorem ok_agg {base : Nat} {t : TypeId} {v : Value} {agg : Bool} (ha : aggOf P t = some agg) {d : Nat} {ls : List Lf} (hl : leafs P d t = some ls) (hok : Value.okWide P W .any base t v) :
    (agg = true → ∃ vs, v = .agg vs) ∧ (agg = false → v.oneCell' = true) := by
  cases d with
  | zero => simp [leafs] at hl
  | succ d =>
    simp only [leafs] at hl
    unfold aggOf at ha
    unfold Value.okWide at hok
    split at hl
    · rename_i ht
      rw [ht] at ha hok
      simp at ha
      subst ha
      refine ⟨by simp, fun _ => ?_⟩
      simp only [Cell.okWide, ht, Cell.ok] at hok
      cases v <;> simp_all [Value.oneCell']
    · rename_i k ht
      rw [ht] at ha hok
      simp at ha
      subst ha
      refine ⟨by simp, fun _ => ?_⟩
      simp only [Cell.okWide, ht, Cell.ok] at hok
      cases v <;> simp_all [Value.oneCell']
    · rename_i ht
      rw [ht] at ha hok
      simp at ha
      subst ha
      refine ⟨by simp, fun _ => ?_⟩
      simp only [Cell.okWide, ht, Cell.ok] at hok
      cases v <;> simp_all [Value.oneCell']
    · rename_i e ht
      rw [ht] at ha hok
      simp at ha
      subst ha
      refine ⟨by simp, fun _ => ?_⟩
      simp only [Cell.okWide, ht, Cell.ok] at hok
      cases v <;> simp_all [Value.oneCell']
    · rename_i fs ht
      rw [ht] at ha hok
      simp at ha
      subst ha
      obtain ⟨cs, rfl, _⟩ := hok
      exact ⟨fun _ => ⟨cs, rfl⟩, by simp⟩
    · rename_i n e ht
      rw [ht] at ha hok
      simp at ha
      subst ha
      obtain ⟨cs, rfl, _⟩ := hok
      exact ⟨fun _ => ⟨cs, rfl⟩, by simp⟩
    · cases hl

/-- a parameter's shape -/
structure Sh where
  agg : Bool
  ls : List Lf
def shOf (P : Program) : List TypeId → Option (List Sh)
  | [] => some []
  | t :: r => match aggOf P t, leafs P 12 t, shOf P r with
    | some a, some ls, some r => some (⟨a, ls⟩ :: r)
    | _, _, _ => none
inductive FitsA : List Sh → List (List Dt) → Prop
  | nil : FitsA [] []
  | cons {s : Sh} {ds : List Dt} {r : List Sh} {l : List (List Dt)} (h : Fits s.ls ds) (hr : FitsA r l) : FitsA (s :: r) (ds :: l)
def argsV : List Sh → List (List Dt) → List CV
  | s :: r, ds :: l => argV s.agg ds :: argsV r l
  | _, _ => []

theorem args_read (bk : Bulk H) {base b2 : Nat} : ∀ (ts : List TypeId) (vs : List Value) (dw : List (DataW H)) (ps : List MemPlace) (shs : List Sh), shOf P ts = some shs → DataW.TrodAll enc P W base (fun _ => true) true ts vs dw ps →
    (∀ (j : Nat) t v, ts[j]? = some t → vs[j]? = some v → Value.okWide P W .any b2 t v) →
    ∃ dss, FitsA shs dss ∧ vs.length = (argsV shs dss).length ∧ (∀ (i : Nat) c, (argsV shs dss)[i]? = some c → ∃ v, vs[i]? = some v ∧ DenV (rho0 W) W c v) ∧ Dt.sizeLL dss ≤ wSum bk.f dw
  | [], [], [], ps, shs, hs, h, hok => by
    simp [shOf] at hs; subst hs
    exact ⟨[], .nil, rfl, by simp [argsV], by simp [Dt.sizeLL]⟩
  | [], _ :: _, _, _, _, _, h, _ => by cases h
  | [], [], _ :: _, _, _, _, h, _ => by cases h
  | _ :: _, [], _, _, _, _, h, _ => by cases h
  | _ :: _, _ :: _, [], _, _, _, h, _ => by cases h
  | t :: ts, v :: vs, d :: dw, ps, shs, hs, h, hok => by
    obtain ⟨p, q, ⟨fuel, h1⟩, h2, _⟩ := h
    simp only [shOf] at hs
    split at hs
    · rename_i a ls r ha hl hr
      cases hs
      obtain ⟨ds, f1, r1, s1⟩ := read_leafs bk 12 t ls hl fuel _ _ h1
      obtain ⟨dss, f2, l2, d2, s2⟩ := args_read bk ts vs dw q r hr h2 fun j t' v' ht hv => hok (j + 1) t' v' (by simpa using ht) (by simpa using hv)
      obtain ⟨g1, g2⟩ := ok_agg ha hl (hok 0 t v rfl rfl)
      refine ⟨ds :: dss, .cons f1 f2, by simp [argsV, l2], fun i c hi => ?_, by simp only [Dt.sizeLL, wSum]; simp only at s1; omega⟩
      cases i with
      | zero =>
        simp [argsV] at hi
        subst hi
        exact ⟨v, rfl, argV_den r1 g1 g2⟩
      | succ i => simpa using d2 i c (by simpa [argsV] using hi)
    · cases hs

theorem carry_all (hl : laidOutB P = true) {W' : World} (hb : Below W.heap.size W W') : ∀ (ts : List TypeId) (vs : List Value) (dw : List (DataW H)) (ps : List MemPlace), (ts.all fun t => P.readableRec t && decide (t < P.types.size)) = true →
    DataW.TrodAll enc P W 0 (fun _ => true) true ts vs dw ps → (∀ x, x ∈ ps → x.block < W.heap.size) → DataW.TrodAll enc P W' 0 (fun b => decide (b < W.heap.size)) true ts vs dw ps
  | [], [], [], _, _, h, _ => h
  | [], _ :: _, _, _, _, h, _ => by cases h
  | [], [], _ :: _, _, _, h, _ => by cases h
  | _ :: _, [], _, _, _, h, _ => by cases h
  | _ :: _, _ :: _, [], _, _, h, _ => by cases h
  | t :: ts, v :: vs, d :: dw, ps, ht, h, hlt => by
    obtain ⟨p, q, h1, h2, rfl⟩ := h
    simp only [List.all_cons, Bool.and_eq_true, decide_eq_true_eq] at ht
    exact ⟨p, q, Below.trod hl ht.1.1 ht.1.2 h1 hb (fun x hx => hlt x (by simp [hx])), carry_all hl hb ts vs dw q (by simpa using ht.2) h2 (fun x hx => hlt x (by simp [hx])), rfl⟩

/-- **A LAW**: whatever data come in, the body returns true; so the row's post holds. -/
theorem law_contract {f : Nat} {fn : Func} {s : ChangeSpec} {args : Array Value} {ds gs : List (DataW H)} {before : List MemPlace} {base : Nat} (bk : Bulk H) (hl : laidOutB P = true) {tb : TypeId} (htb : P.underlying tb = some .bool)
    (hres : fn.resultTypes = #[tb]) (hvars : s.vars = []) (hspec : ∀ ds : List (DataW H), ds.length = fn.params.size → s.fn H ds = { results := [.lit (.bool true)], args := ds })
    {shs : List Sh} (hsh : shOf P fn.params.toList = some shs) (hts : (fn.params.toList.all fun t => P.readableRec t && decide (t < P.types.size)) = true)
    (walk : ∀ dss, FitsA shs dss → Dt.sizeLL dss ≤ wSum bk.f ds → ACall P f (argsV shs dss) [] fun r _ => r = vBool true)
    (hval : ∀ (j : Nat) t v, fn.params[j]? = some t → args[j]? = some v → Value.okWide P W .any base t v)
    (hW : DataW.Whole enc P fn.params.toList s.vars false W args.toList ds gs before) :
    Calls P f args W fun e W' => ∃ v, e = .returned v ∧ s.post enc P fn false true false false W args v W' := by
  have hW' := hW
  obtain ⟨p, q, hA, hV, rfl, hfz, hnd⟩ := hW
  obtain ⟨dss, hf, hlen, hden, hsz⟩ := args_read bk fn.params.toList args.toList ds p shs hsh hA fun j t v ht hv => hval j t v (by simpa using ht) (by simpa using hv)
  have hcalls := calls_of_acall_plain (u := .bool true) (walk dss hf hsz) W args.toList hlen hden (by simp) (fun r m h => h)
  have hlt : ∀ x, x ∈ p → x.block < W.heap.size := fun x hx => by simpa using hW'.lt x (by simp [hx])
  rw [hvars] at hV
  obtain ⟨rfl, rfl⟩ := trodVars_none hV
  have hdl : ds.length = fn.params.size := by
    have : ∀ (ts : List TypeId) (vs : List Value) (dw : List (DataW H)) (ps : List MemPlace), DataW.TrodAll enc P W 0 (fun _ => true) true ts vs dw ps → dw.length = ts.length := by
      intro ts
      induction ts with
      | nil => intro vs dw ps h; obtain ⟨_, rfl, _⟩ := trodAll_nil h; rfl
      | cons t ts ih =>
        intro vs dw ps h
        obtain ⟨v, vs1, d, ds1, a, b, rfl, rfl, rfl, h1, h2⟩ := trodAll_cons h
        simp [ih _ _ _ h2]
    simpa using this _ _ _ _ hA
  refine hcalls.mono fun e W' ⟨he, hb⟩ => ?_
  subst he
  have hs : s.fn H (ds ++ []) = { results := [.lit (.bool true)], args := ds } := by rw [List.append_nil]; exact hspec ds hdl
  refine ⟨_, rfl, ds, [], p ++ [], [], p, [], hW', ?_, ?_, ?_, hb.frame _, fun h => by cases h⟩
  · rw [hs, hres]
    exact trodAll_cons_mk (shut_bool htb _) trodAll_mk0
  · rw [hs]
    exact carry_all hl hb _ _ _ _ hts hA hlt
  · rw [hs, hvars]
    rfl
end
end Go.AM
