import Derived.Test.YtbemknkbegkflaaAmV
set_option linter.unusedVariables false
set_option linter.unusedSimpArgs false
set_option linter.unnecessarySimpa false
/-! Views by lists; calls whose answers are said in another way; calls that borrow blocks. -/
namespace Go.AM
section
variable {P : Program} {n0 : Nat} {σ : Nat → Nat} {Z : Nat → Prop} {ρ : Rho} {m : Mem} {w : World}

/-- number i of now is number l[i] of then -/
def sg (l : List Nat) (n : Nat) (i : Nat) : Nat := match nth l i with | some x => x | none => n + (i - l.length)
def memN : List Nat → Nat → Bool
  | [], _ => false
  | x :: r, k => Nat.beq x k || memN r k
def nodupN : List Nat → Bool
  | [] => true
  | x :: r => !(memN r x) && nodupN r
def allLt (n : Nat) : List Nat → Bool
  | [] => true
  | x :: r => Nat.blt x n && allLt n r
def idTo (l : List Nat) : Nat → Bool
  | 0 => true
  | k + 1 => (match nth l k with | some x => Nat.beq x k | none => false) && idTo l k
theorem memN_iff : ∀ {l : List Nat} {k : Nat}, memN l k = true ↔ k ∈ l
  | [], k => by simp [memN]
  | x :: r, k => by
    simp only [memN, Bool.or_eq_true, List.mem_cons, memN_iff]
    constructor
    · rintro (h | h)
      · exact .inl (Nat.eq_of_beq_eq_true h).symm
      · exact .inr h
    · rintro (rfl | h)
      · exact .inl (Nat.beq_refl _)
      · exact .inr h
theorem nodupN_iff : ∀ {l : List Nat}, nodupN l = true → ∀ i j : Nat, i < l.length → j < l.length → l[i]? = l[j]? → i = j
  | [], _, i, j, hi, _, _ => by simp at hi
  | x :: r, h, i, j, hi, hj, he => by
    simp only [nodupN, Bool.and_eq_true, Bool.not_eq_true'] at h
    have hx : ∀ k : Nat, r[k]? ≠ some x := fun k hk => by
      have := memN_iff.2 (List.mem_of_getElem? hk)
      rw [h.1] at this
      cases this
    cases i with
    | zero =>
      cases j with
      | zero => rfl
      | succ j => simp at he; exact absurd he.symm (hx j)
    | succ i =>
      cases j with
      | zero => simp at he; exact absurd he (hx i)
      | succ j =>
        simp at he hi hj
        rw [nodupN_iff h.2 i j hi hj he]
theorem allLt_iff {n : Nat} : ∀ {l : List Nat}, allLt n l = true → ∀ x, x ∈ l → x < n
  | [], _, x, hx => by simp at hx
  | y :: r, h, x, hx => by
    simp only [allLt, Bool.and_eq_true] at h
    rcases List.mem_cons.1 hx with rfl | hx
    · exact Nat.le_of_ble_eq_true h.1
    · exact allLt_iff h.2 x hx
theorem idTo_iff {l : List Nat} : ∀ {k : Nat}, idTo l k = true → ∀ i, i < k → l[i]? = some i
  | 0, _, i, hi => by omega
  | k + 1, h, i, hi => by
    simp only [idTo, Bool.and_eq_true] at h
    rcases Nat.lt_or_ge i k with h1 | h1
    · exact idTo_iff h.2 i h1
    · have : i = k := by omega
      subst this
      rw [← nth_eq]
      cases hn : nth l i with
      | none => rw [hn] at h; simp at h
      | some x => rw [hn] at h; simp only at h; rw [Nat.eq_of_beq_eq_true h.1]
theorem sg_lt {l : List Nat} {n i : Nat} (h : i < l.length) : sg l n i = l[i] := by
  simp [sg, nth_eq, List.getElem?_eq_getElem h]
theorem sg_ge {l : List Nat} {n i : Nat} (h : l.length ≤ i) : sg l n i = n + (i - l.length) := by
  simp [sg, nth_eq, List.getElem?_eq_none h]
theorem sg_inj {l : List Nat} {n : Nat} (hd : nodupN l = true) (hl : allLt n l = true) {i j : Nat} (h : sg l n i = sg l n j) : i = j := by
  rcases Nat.lt_or_ge i l.length with hi | hi <;> rcases Nat.lt_or_ge j l.length with hj | hj
  · rw [sg_lt hi, sg_lt hj] at h
    exact nodupN_iff hd i j hi hj (by rw [List.getElem?_eq_getElem hi, List.getElem?_eq_getElem hj, h])
  · rw [sg_lt hi, sg_ge hj] at h
    have := allLt_iff hl _ (List.getElem_mem hi)
    omega
  · rw [sg_ge hi, sg_lt hj] at h
    have := allLt_iff hl _ (List.getElem_mem hj)
    omega
  · rw [sg_ge hi, sg_ge hj] at h
    omega

def RV.ren (σ : Nat → Nat) : RV → RV
  | .one c => .one (c.ren σ)
  | .agg cs => .agg (cs.map (CC.ren σ))
def CV.ren (σ : Nat → Nat) : CV → CV
  | .rv r => .rv (r.ren σ)
  | .tup rs => .tup (rs.map (RV.ren σ))
  | .junk => .junk
  | .undef => .undef
def Bk.ren (σ : Nat → Nat) : Bk → Bk
  | .dead => .dead
  | .var cs => .var (cs.map (CC.ren σ))
  | .row s es => .row s (es.map fun cs => cs.map (CC.ren σ))
  | .mp es => .mp (es.map fun e => ⟨e.key, e.val.ren σ⟩)
  | .it cur left => .it cur left
theorem VwR.ren (r : RV) : VwR σ m Z (r.ren σ) r := by
  cases r with
  | one c => exact .one (.ren c)
  | agg cs =>
    refine .agg (by simp) fun i c c' h h' => ?_
    rw [List.getElem?_map, h'] at h
    cases h
    exact .ren c'
theorem VwV.ren' (v : CV) : VwV σ m Z (v.ren σ) v := by
  cases v with
  | rv r => exact .rv (.ren r)
  | tup rs =>
    refine .tup (by simp) fun i c c' h h' => ?_
    rw [List.getElem?_map, h'] at h
    cases h
    exact .ren c'
  | junk => exact .junk _
  | undef => exact .undef
theorem VwV.ren {v v' : CV} (h : v'.ren σ = v) : VwV σ m Z v v' := h ▸ .ren' v'
theorem VwB.ren' {id : Nat} (b : Bk) (hb : b ≠ .dead) : VwB σ m Z id (b.ren σ) b := by
  cases b with
  | dead => exact absurd rfl hb
  | var cs =>
    refine .var fun i c' h => ⟨c'.ren σ, by rw [List.getElem?_map, h]; rfl, .ren c'⟩
  | row s es =>
    refine .row s (by simp) (fun i cs cs' h h' => ?_) fun i cs cs' j c c' h h' g g' => ?_
    · rw [List.getElem?_map, h'] at h
      cases h
      simp
    · rw [List.getElem?_map, h'] at h
      cases h
      rw [List.getElem?_map, g'] at g
      cases g
      exact .ren c'
  | mp es =>
    refine .mp (by simp) fun i e e' h h' => ?_
    rw [List.getElem?_map, h'] at h
    cases h
    exact ⟨rfl, .ren _⟩
  | it cur left => exact .it cur left
/-- rows of data -/
def dRows (ds : List (List Dt)) : List (List CC) := ds.map fun es => es.map .dat
theorem dRows_ren (ds : List (List Dt)) : (dRows ds).map (fun cs => cs.map (CC.ren σ)) = dRows ds := by
  simp [dRows, CC.ren]
theorem Bk.ren_dRows (s : Nat) (ds : List (List Dt)) : (Bk.row s (dRows ds)).ren σ = .row s (dRows ds) := by
  simp only [Bk.ren, dRows_ren]
theorem FrzD.rowD {p : Option Nat} {id esz : Nat} {ds : List (List Dt)} (hz : Z id) (h : m[id]? = some (.row esz (dRows ds))) (lo : Nat) (hi : Option Nat) : FrzD m Z p (.row id esz lo hi) (.sl esz (subL ds lo hi)) := by
  refine .row id esz lo hi _ ds hz h (by simp [dRows]) (fun i cs es h1 h2 => ?_) fun i cs es j c d h1 h2 h3 h4 => ?_
  · simp only [dRows, List.getElem?_map, h2, Option.map_some, Option.some.injEq] at h1
    subst h1; simp
  · simp only [dRows, List.getElem?_map, h2, Option.map_some, Option.some.injEq] at h1
    subst h1
    simp only [List.getElem?_map, h4, Option.map_some, Option.some.injEq] at h3
    subst h3
    exact .dat d

/-- an environment, slot by slot -/
inductive EnvVw (σ : Nat → Nat) (m : Mem) (Z : Nat → Prop) : List CV → List CV → Prop
  | nil : EnvVw σ m Z [] []
  | junk {v : CV} {e e' : List CV} (h : EnvVw σ m Z e e') : EnvVw σ m Z (v :: e) (.junk :: e')
  | put {v v' : CV} {e e' : List CV} (hv : VwV σ m Z v v') (h : EnvVw σ m Z e e') : EnvVw σ m Z (v :: e) (v' :: e')
theorem EnvVw.len {e e' : List CV} (h : EnvVw σ m Z e e') : e'.length = e.length := by
  induction h <;> simp [*]
theorem EnvVw.get {e e' : List CV} (h : EnvVw σ m Z e e') : ∀ (i : Nat) c', e'[i]? = some c' → ∃ c, e[i]? = some c ∧ VwV σ m Z c c' := by
  induction h with
  | nil => intro i v h; simp at h
  | junk h ih =>
    intro i v hv
    cases i with
    | zero => simp at hv; subst hv; exact ⟨_, rfl, .junk _⟩
    | succ i => simpa using ih i v (by simpa using hv)
  | put hx h ih =>
    intro i v hv
    cases i with
    | zero => simp at hv; subst hv; exact ⟨_, rfl, hx⟩
    | succ i => simpa using ih i v (by simpa using hv)
theorem EnvVw.eq {v v' : CV} {e e' : List CV} (hv : v'.ren σ = v) (h : EnvVw σ m Z e e') : EnvVw σ m Z (v :: e) (v' :: e') := .put (.ren hv) h
/-- memory, block by block -/
inductive MemVw (σ : Nat → Nat) (m : Mem) (Z : Nat → Prop) : Nat → Mem → Prop
  | nil (k : Nat) : MemVw σ m Z k []
  | dead {k : Nat} {r : Mem} (h : MemVw σ m Z (k + 1) r) : MemVw σ m Z k (.dead :: r)
  | put {k : Nat} {b b' : Bk} {r : Mem} (hz : ¬ Z (σ k)) (hb : nth m (σ k) = some b) (hv : VwB σ m Z (σ k) b b') (h : MemVw σ m Z (k + 1) r) : MemVw σ m Z k (b' :: r)
theorem MemVw.get {k : Nat} {m' : Mem} (h : MemVw σ m Z k m') : ∀ (i : Nat) b', m'[i]? = some b' → b' = .dead ∨ (¬ Z (σ (k + i)) ∧ ∃ b, m[σ (k + i)]? = some b ∧ VwB σ m Z (σ (k + i)) b b') := by
  induction h with
  | nil k => intro i b' h; simp at h
  | @dead k r h ih =>
    intro i b' hi
    cases i with
    | zero => simp at hi; exact .inl hi.symm
    | succ i =>
      have := ih i b' (by simpa using hi)
      rwa [show k + 1 + i = k + (i + 1) by omega] at this
  | @put k b b1 r hz hb hv h ih =>
    intro i b' hi
    cases i with
    | zero => simp at hi; subst hi; exact .inr ⟨hz, _, by rw [← nth_eq]; exact hb, hv⟩
    | succ i =>
      have := ih i b' (by simpa using hi)
      rwa [show k + 1 + i = k + (i + 1) by omega] at this
/-- **ANOTHER SAYING**, by lists: number i of now is number l[i] of then; F: what is frozen -/
theorem View.of {e e' : List CV} {m m' : Mem} (n : Nat) (l F : List Nat) (hn : m.length = n) (hl : m'.length = l.length) (h0 : Nat.ble n0 l.length = true) (hi : idTo l n0 = true) (hd : nodupN l = true) (ha : allLt n l = true)
    (henv : EnvVw (sg l n) m (fun k => memN F k = true) e e') (hmem : MemVw (sg l n) m (fun k => memN F k = true) 0 m') : View n0 ⟨e, m⟩ ⟨e', m'⟩ := by
  have h0' : n0 ≤ l.length := Nat.le_of_ble_eq_true h0
  refine View.mk' (sg l n) _ (by simp only; omega) henv.len (fun i hlt => ?_) (fun i j _ _ h => sg_inj hd ha h) (fun i hlt => ?_) (fun i c' h => henv.get i c' h) (fun i b' h => by have := hmem.get i b' h; simpa using this)
  · rw [sg_lt (by omega)]
    have := idTo_iff hi i hlt
    rw [List.getElem?_eq_getElem (by omega)] at this
    simpa using this
  · rcases Nat.lt_or_ge i l.length with h | h
    · simp only; omega
    · rw [sg_ge h] at hlt
      simp only at hlt; omega

/-! ### calls -/
/-- what a call answers is said in another way -/
theorem acall_view {f : Nat} {args : List CV} {m : Mem} {K0 K : CV → Mem → Prop} (h : ACall P f args m K0)
    (hK : ∀ r m1, K0 r m1 → ∃ r' m', View m.length ⟨[r], m1⟩ ⟨[r'], m'⟩ ∧ K r' m') : ACall P f args m K := by
  refine ⟨h.1, fun ρ w vs hM hl hd => ?_⟩
  refine (h.2 ρ w vs hM hl hd).mono fun e w' ⟨v, r, m1, ρ1, he, hk, hM1, hd1, hx⟩ => ?_
  obtain ⟨r', m', hv, hk'⟩ := hK r m1 hk
  obtain ⟨ρ', hM', hc, hdv⟩ := hv.go ρ1 w' hM1
  have hn := hM.n
  refine ⟨v, r', m', ρ', he, hk', hM', ?_, ⟨by rw [hn, hM'.n]; exact hv.hn, fun id hid => (hc.loc id (by rw [← hn]; exact hid)).trans (hx.loc id hid), fun b hb => hc.S b (hx.S b hb), fun b hb => ?_, fun k hk => ?_, hx.frame, hx.size, hx.os, hx.tape, hx.output⟩⟩
  · obtain ⟨c, hc', hcd⟩ := hdv 0 r' rfl
    simp at hc'
    subst hc'
    exact hcd v hd1
  · rcases hc.S' b hb with h | ⟨k, hk, rfl⟩
    · exact hx.S' b h
    · exact .inr (hx.live k hk)
  · obtain ⟨k0, h0, e0⟩ := hc.live k hk
    rw [← e0]
    exact hx.live k0 h0

/-! ### a call that borrows blocks -/
def renM (σ : Nat → Nat) : Mem → Mem
  | [] => []
  | b :: r => b.ren σ :: renM σ r
theorem renM_eq (σ : Nat → Nat) : ∀ m, renM σ m = m.map (Bk.ren σ)
  | [] => rfl
  | b :: r => by simp [renM, renM_eq σ r]
/-- blocks come back to their places; the others are new -/
def weave : Mem → List Nat → Mem → Mem
  | m, [], ms => app2 m ms
  | m, _ :: _, [] => m
  | m, id :: l, b :: ms => weave (setN m id b) l ms
theorem weave_len : ∀ (l : List Nat) (m ms : Mem), l.length ≤ ms.length → (weave m l ms).length = m.length + (ms.length - l.length)
  | [], m, ms, _ => by simp [weave, app2_eq]
  | _ :: l, m, [], h => by simp at h
  | id :: l, m, b :: ms, h => by
    simp at h
    rw [weave, weave_len l _ _ h, setN_eq]
    simp
theorem weave_old : ∀ (l : List Nat) (m ms : Mem) (j : Nat), j < m.length → j ∉ l → (weave m l ms)[j]? = m[j]?
  | [], m, ms, j, hj, _ => by simp [weave, app2_eq, List.getElem?_append_left hj]
  | _ :: l, m, [], j, _, _ => by simp [weave]
  | id :: l, m, b :: ms, j, hj, hn => by
    simp at hn
    rw [weave, weave_old l _ _ j (by rw [setN_eq]; simpa using hj) hn.2, setN_eq, List.getElem?_set_ne (fun h => hn.1 h.symm)]
theorem weave_new : ∀ (l : List Nat) (m ms : Mem), nodupN l = true → allLt m.length l = true → l.length ≤ ms.length → ∀ (i : Nat), i < ms.length → (weave m l ms)[sg l m.length i]? = ms[i]?
  | [], m, ms, _, _, _, i, hi => by
    simp only [weave, app2_eq, sg, nth, List.length_nil, Nat.sub_zero]
    rw [List.getElem?_append_right (by omega)]
    simp
  | _ :: l, m, [], _, _, h, _, _ => by simp at h
  | id :: l, m, b :: ms, hd, ha, h, i, hi => by
    simp only [nodupN, Bool.and_eq_true, Bool.not_eq_true'] at hd
    simp only [allLt, Bool.and_eq_true] at ha
    simp at h hi
    have hlen : (setN m id b).length = m.length := by rw [setN_eq]; simp
    have hid : id < m.length := Nat.le_of_ble_eq_true ha.1
    cases i with
    | zero =>
      rw [weave]
      show (weave (setN m id b) l ms)[id]? = some b
      rw [weave_old l _ _ id (by rw [hlen]; exact hid) (fun h => by rw [memN_iff.2 h] at hd; cases hd.1), setN_eq]
      simp [hid]
    | succ i =>
      have := weave_new l (setN m id b) ms hd.2 (by rw [hlen]; exact ha.2) h i (by omega)
      rw [hlen] at this
      rw [weave]
      have e : sg (id :: l) m.length (i + 1) = sg l m.length i := by simp [sg, nth]
      rw [e, this]; simp

theorem DenC.pos {ρ : Rho} {w : World} {pos pos' : Option (Nat × Nat × Nat)} {c : CC} {v : Value} (hc : ∀ s e, c ≠ .own s e) (h : DenC ρ w pos c v) : DenC ρ w pos' c v := by
  cases c <;> simp only [DenC] at h ⊢
  case own => exact absurd rfl (hc _ _)
  all_goals exact h
theorem DenC.like {ρ ρ' : Rho} {w : World} {pos : Option (Nat × Nat × Nat)} (hn : ρ.n ≤ ρ'.n) (hloc : ∀ id, id < ρ.n → ρ'.loc (.root id) = ρ.loc (.root id)) (hsub : ∀ id i j, pos = some (id, i, j) → ρ'.loc (.sub id i j) = ρ.loc (.sub id i j))
    (hS : ∀ b, ρ.S b → ρ'.S b) {w' : World} (hheap : ∀ b, ρ.S b → w'.heap[b]? = w.heap[b]?) {c : CC} {v : Value} (h : DenC ρ w pos c v) : DenC ρ' w' pos c v := by
  let ρ1 : Rho := { n := ρ'.n, loc := fun k => match k with | .root id => ρ'.loc (.root id) | k => ρ.loc k, S := ρ'.S }
  have g : Goes ρ w ρ1 w' := ⟨hn, fun k hk => by
    cases k with
    | root id => exact hloc id hk
    | sub id i j => rfl, hS, hheap⟩
  by_cases hc : ∃ s e, c = .own s e
  · obtain ⟨esz, elems, rfl⟩ := hc
    obtain ⟨id, i, j, hpos, hr⟩ := h
    refine ⟨id, i, j, hpos, ?_⟩
    rw [hsub id i j hpos]
    exact hr
  · have hc : ∀ s e, c ≠ .own s e := fun s e h => hc ⟨s, e, h⟩
    have h1 := DenC.pos (pos' := pos) hc (DenC.goes g (by simp) (DenC.pos (pos' := none) hc h))
    cases c <;> simp only [DenC] at h1 ⊢
    case own => exact absurd rfl (hc _ _)
    all_goals exact h1

theorem DenC.ren {ρ ρ' : Rho} {τ : Nat → Nat} {w : World} {pos pos' : Option (Nat × Nat × Nat)} (hτ : ∀ i, i < ρ.n → τ i < ρ'.n) (hroot : ∀ i, i < ρ.n → ρ'.loc (.root (τ i)) = ρ.loc (.root i)) (hS : ∀ b, ρ.S b → ρ'.S b)
    (hpos : ∀ id i j, pos = some (id, i, j) → pos' = some (τ id, i, j) ∧ ρ'.loc (.sub (τ id) i j) = ρ.loc (.sub id i j)) {c : CC} {v : Value} (h : DenC ρ w pos c v) : DenC ρ' w pos' (c.ren τ) v := by
  cases c <;> simp only [DenC, CC.ren] at h ⊢
  case junk => exact h
  case dat => exact h.mono hS (fun _ _ => rfl)
  case ptr id _ => rw [hroot id h.1]; exact ⟨hτ id h.1, h.2⟩
  case eptr id _ _ _ => rw [hroot id h.1]; exact ⟨hτ id h.1, h.2⟩
  case iptr =>
    obtain ⟨b, off, h1, h2, h3⟩ := h
    refine ⟨b, off, h1, hS _ h2, fun j d hj => ?_⟩
    obtain ⟨u, hu, hdu⟩ := h3 j d hj
    exact ⟨u, hu, hdu.mono hS (fun _ _ => rfl)⟩
  case row id _ _ _ => rw [hroot id h.1]; exact ⟨hτ id h.1, h.2⟩
  case esl => exact h
  case map id => rw [hroot id h.1]; exact ⟨hτ id h.1, h.2⟩
  case fn f caps =>
    refine ⟨fun id hid => ?_, ?_⟩
    · obtain ⟨i, hi, rfl⟩ := List.mem_map.1 hid
      exact hτ i (h.1 i hi)
    · rw [h.2]
      congr 2
      rw [List.map_map]
      exact List.map_congr_left fun id hid => by simp only [Function.comp]; rw [hroot id (h.1 id hid)]
  case own s e =>
    obtain ⟨a, b, c, h1, h2⟩ := h
    obtain ⟨h3, h4⟩ := hpos a b c h1
    refine ⟨τ a, b, c, h3, ?_⟩
    rw [h4]
    exact h2
theorem DenR.ren {ρ ρ' : Rho} {τ : Nat → Nat} {w : World} (hτ : ∀ i, i < ρ.n → τ i < ρ'.n) (hroot : ∀ i, i < ρ.n → ρ'.loc (.root (τ i)) = ρ.loc (.root i)) (hS : ∀ b, ρ.S b → ρ'.S b) {c : RV} {v : Value} (h : DenR ρ w c v) : DenR ρ' w (c.ren τ) v := by
  cases c with
  | one c => exact DenC.ren hτ hroot hS (fun _ _ _ h => by cases h) h
  | agg cs =>
    obtain ⟨vs, rfl, h1, h2⟩ := h
    refine ⟨vs, rfl, by simpa using h1, fun i c hi => ?_⟩
    rw [List.getElem?_map] at hi
    obtain ⟨c0, h0, rfl⟩ := Option.map_eq_some_iff.1 hi
    obtain ⟨u, hu, hd⟩ := h2 i c0 h0
    exact ⟨u, hu, DenC.ren hτ hroot hS (fun _ _ _ h => by cases h) hd⟩
theorem DenV.ren {ρ ρ' : Rho} {τ : Nat → Nat} {w : World} (hτ : ∀ i, i < ρ.n → τ i < ρ'.n) (hroot : ∀ i, i < ρ.n → ρ'.loc (.root (τ i)) = ρ.loc (.root i)) (hS : ∀ b, ρ.S b → ρ'.S b) {c : CV} {v : Value} (h : DenV ρ w c v) : DenV ρ' w (c.ren τ) v := by
  cases c with
  | junk => trivial
  | undef => exact h
  | rv r => exact DenR.ren hτ hroot hS h
  | tup cs =>
    obtain ⟨vs, rfl, h1, h2⟩ := h
    refine ⟨vs, rfl, by simpa using h1, fun i c hi => ?_⟩
    rw [List.getElem?_map] at hi
    obtain ⟨c0, h0, rfl⟩ := Option.map_eq_some_iff.1 hi
    obtain ⟨u, hu, hd⟩ := h2 i c0 h0
    exact ⟨u, hu, DenR.ren hτ hroot hS hd⟩
theorem BkRel.ren {ρ ρ' : Rho} {τ : Nat → Nat} {w : World} (hτ : ∀ i, i < ρ.n → τ i < ρ'.n) (hroot : ∀ i, i < ρ.n → ρ'.loc (.root (τ i)) = ρ.loc (.root i)) (hS : ∀ b, ρ.S b → ρ'.S b) {id : Nat} (hid : id < ρ.n) (hsub : ∀ i j, ρ'.loc (.sub (τ id) i j) = ρ.loc (.sub id i j))
    {b : Bk} (h : BkRel ρ w id b) : BkRel ρ' w (τ id) (b.ren τ) := by
  cases b with
  | dead => trivial
  | var cs =>
    obtain ⟨cur, hc, hd⟩ := h
    simp only [Bk.ren, BkRel, hroot id hid]
    refine ⟨cur, hc, fun j c hj => ?_⟩
    rw [List.getElem?_map] at hj
    obtain ⟨c0, h0, rfl⟩ := Option.map_eq_some_iff.1 hj
    obtain ⟨u, hu, hdu⟩ := hd j c0 h0
    exact ⟨u, hu, DenC.ren hτ hroot hS (fun _ _ _ h => by cases h) hdu⟩
  | row s es =>
    obtain ⟨h2, h3, h4, h5, hcur⟩ := h
    simp only [Bk.ren, BkRel, hroot id hid]
    refine ⟨by simpa using h2, h3, h4, fun cs hcs => ?_, fun hpos => ?_⟩
    · obtain ⟨cs0, h0, rfl⟩ := List.mem_map.1 hcs
      simpa using h5 cs0 h0
    · obtain ⟨cur, hc, h1, h6⟩ := hcur hpos
      refine ⟨cur, hc, h1, fun i cs j c hi hj => ?_⟩
      rw [List.getElem?_map] at hi
      obtain ⟨cs0, h0, rfl⟩ := Option.map_eq_some_iff.1 hi
      rw [List.getElem?_map] at hj
      obtain ⟨c0, h00, rfl⟩ := Option.map_eq_some_iff.1 hj
      obtain ⟨u, hu, hdu⟩ := h6 i cs0 j c0 h0 h00
      exact ⟨u, hu, DenC.ren hτ hroot hS (fun a b c h => by cases h; exact ⟨rfl, hsub _ _⟩) hdu⟩
  | mp es =>
    obtain ⟨ae, clock, hc, h1, h2⟩ := h
    simp only [Bk.ren, BkRel, hroot id hid]
    refine ⟨ae, clock, hc, by simpa using h1, fun i e hi => ?_⟩
    rw [List.getElem?_map] at hi
    obtain ⟨e0, h0, rfl⟩ := Option.map_eq_some_iff.1 hi
    obtain ⟨ae', hae, hk, hdv⟩ := h2 i e0 h0
    exact ⟨ae', hae, hk, DenR.ren hτ hroot hS hdv⟩
  | it cur left =>
    obtain ⟨mb, seen, ck, es', h2, h3, h4, h5, h6⟩ := h
    simp only [Bk.ren, BkRel, hroot id hid]
    exact ⟨mb, seen, ck, es', h2, h3, hS _ h4, h5, h6⟩
end
end Go.AM
