import Derived.Test.YtbemknkbegkflaaAmO
set_option linter.unusedVariables false
set_option linter.unusedSimpArgs false
set_option linter.unnecessarySimpa false
/-! A call whose arguments are data: in whatever memory; what it made is frozen. -/
namespace Go.AM
section
variable {P : Program}

/-- a cell that has become data -/
inductive FrzC (m : Mem) : CC → CC → Prop
  | dat (d : Dt) : FrzC m (.dat d) (.dat d)
  | esl (esz : Nat) : FrzC m .esl (.dat (.sl esz []))
  | fn (f : Nat) : FrzC m (.fn f []) (.fn f [])
  | row (id esz lo : Nat) (hi : Option Nat) (elems : List (List CC)) (ds : List (List Dt)) (h : m[id]? = some (.row esz elems)) (hl : elems.length = ds.length)
      (hd : ∀ (i : Nat) cs es, elems[i]? = some cs → ds[i]? = some es → cs.length = es.length ∧ ∀ (j : Nat) c d, cs[j]? = some c → es[j]? = some d → c = .dat d ∨ ∃ s e, c = .own s e ∧ d = .sl s e) :
      FrzC m (.row id esz lo hi) (.dat (.sl esz (subL ds lo hi)))
inductive FrzR (m : Mem) : RV → RV → Prop
  | one {c c' : CC} (h : FrzC m c c') : FrzR m (.one c) (.one c')
  | agg {cs cs' : List CC} (hl : cs.length = cs'.length) (h : ∀ (i : Nat) c c', cs[i]? = some c → cs'[i]? = some c' → FrzC m c c') : FrzR m (.agg cs) (.agg cs')
inductive FrzV (m : Mem) : CV → CV → Prop
  | rv {r r' : RV} (h : FrzR m r r') : FrzV m (.rv r) (.rv r')
  | tup {rs rs' : List RV} (hl : rs.length = rs'.length) (h : ∀ (i : Nat) r r', rs[i]? = some r → rs'[i]? = some r' → FrzR m r r') : FrzV m (.tup rs) (.tup rs')

def Rho.frz (ρ : Rho) (ρ1 : Rho) (m1 : Mem) : Rho := { ρ with S := fun b => ρ1.S b ∨ ∃ k, Live ρ1 m1 k ∧ (ρ1.loc k).b = b }

theorem subL_get {α : Type} (l : List α) (lo : Nat) (hi : Option Nat) (i : Nat) (x : α) (h : (subL l lo hi)[i]? = some x) : l[lo + i]? = some x := by
  rw [subL_eq] at h
  rw [List.getElem?_drop] at h
  cases hi with
  | none => exact h
  | some k =>
    simp only at h
    rw [List.getElem?_take] at h
    split at h
    · exact h
    · cases h
theorem subL_len {α : Type} (l : List α) (lo : Nat) (hi : Option Nat) (h1 : lo ≤ hi.getD l.length) (h2 : hi.getD l.length ≤ l.length) : (subL l lo hi).length = hi.getD l.length - lo := by
  rw [subL_eq]
  cases hi with
  | none => simp
  | some k => simp at h1 h2 ⊢; omega

theorem FrzC.den {ρ ρ1 : Rho} {m1 : Mem} {w : World} (hM : MemRel ρ1 m1 w) {c c' : CC} (h : FrzC m1 c c') {v : Value} (hd : DenC ρ1 w .none c v) : DenC (ρ.frz ρ1 m1) w .none c' v := by
  have mono : ∀ {d : Dt} {v : Value}, DenD ρ1.S w d v → DenD (ρ.frz ρ1 m1).S w d v := fun h => h.mono (fun _ h => .inl h) (fun _ _ => rfl)
  cases h with
  | dat d => exact mono hd
  | esl esz =>
    obtain ⟨a, rfl⟩ := hd
    exact .nil esz a 0 (Nat.zero_le _)
  | fn f =>
    obtain ⟨_, rfl⟩ := hd
    exact ⟨by simp, rfl⟩
  | row id esz lo hi elems ds hb hl hcd =>
    obtain ⟨h1, h2, h3, h4, h5, a, rfl, ha⟩ := hd
    obtain ⟨g1, g2, g3, g4, g5⟩ := hM.bk id _ hb
    have hdl : ds.length = (ρ1.loc (.root id)).len := by omega
    have hlen : (subL ds lo hi).length = hi.getD (ρ1.loc (.root id)).len - lo := by
      rw [← hdl]
      exact subL_len ds lo hi (by rw [hdl]; exact h2) (by rw [hdl]; exact h3)
    show DenD _ w (.sl esz (subL ds lo hi)) _
    rw [← hlen]
    rcases Nat.eq_zero_or_pos (subL ds lo hi).length with h0 | hpos
    · rw [h0, List.eq_nil_of_length_eq_zero h0]
      exact .nil esz a _ (by omega)
    · have hlo : lo < (ρ1.loc (.root id)).cap := by omega
      obtain ⟨cur, hcur, hsz, hcells⟩ := g5 (by omega)
      rw [ha hlo]
      have key : ∀ (i : Nat) es (j : Nat) d, (subL ds lo hi)[i]? = some es → es[j]? = some d → ∃ u, w.cell? ⟨(ρ1.loc (.root id)).b, (ρ1.loc (.root id)).base + lo * esz + i * esz + j, .none⟩ = some u ∧ DenD (ρ.frz ρ1 m1).S w d u := by
        intro i es j d hi' hj
        have hi2 := subL_get ds lo hi i es hi'
        have hlt : lo + i < elems.length := by rw [hl]; exact (List.getElem?_eq_some_iff.1 hi2).1
        have hi3 := List.getElem?_eq_getElem hlt
        obtain ⟨hlc, hcs⟩ := hcd _ _ _ hi3 hi2
        have hjlt : j < elems[lo + i].length := by rw [hlc]; exact (List.getElem?_eq_some_iff.1 hj).1
        have hj3 := List.getElem?_eq_getElem hjlt
        obtain ⟨u, hu, hdu⟩ := hcells _ _ _ _ hi3 hj3
        refine ⟨u, ?_, ?_⟩
        · rw [hcur.cell, ← hu]
          congr 1
          rw [Nat.add_mul]
          omega
        · rcases hcs _ _ _ hj3 hj with hc | ⟨s, e, hc, rfl⟩
          · rw [hc] at hdu
            exact mono hdu
          · rw [hc] at hdu hj3
            obtain ⟨id', i', j', hpos', q1, q2, a', rfl, q3⟩ := hdu
            simp only [Option.some.injEq, Prod.mk.injEq] at hpos'
            obtain ⟨rfl, rfl, rfl⟩ := hpos'
            rcases Nat.eq_zero_or_pos e.length with he | he
            · rw [List.eq_nil_of_length_eq_zero he]
              exact .nil s a' _ (by omega)
            · have hown : OwnAt m1 id (lo + i) j s e := ⟨_, _, _, hb, hi3, hj3⟩
              obtain ⟨cur', hcur', w1, w2, w3⟩ := hM.own _ _ _ _ _ hown (by omega)
              rw [q3 (by omega)]
              have hl' : Live ρ1 m1 (.sub id (lo + i) j) := ⟨⟨_, _, hown⟩, by omega⟩
              have ky : ∀ (i2 : Nat) cs (j2 : Nat) d2, e[i2]? = some cs → cs[j2]? = some d2 → ∃ u, w.cell? ⟨(ρ1.loc (.sub id (lo + i) j)).b, (ρ1.loc (.sub id (lo + i) j)).base + i2 * s + j2, .none⟩ = some u ∧ DenD (ρ.frz ρ1 m1).S w d2 u := by
                intro i2 cs j2 d2 hi2 hj2
                obtain ⟨u, hu, hd⟩ := w3 i2 cs j2 d2 hi2 hj2
                exact ⟨u, by rw [hcur'.cell]; exact hu, mono hd⟩
              exact DenD.sl s e _ _ _ (fun i2 j2 => (w.cell? ⟨(ρ1.loc (.sub id (lo + i) j)).b, (ρ1.loc (.sub id (lo + i) j)).base + i2 * s + j2, .none⟩).getD Go.undef) (.inr ⟨_, hl', rfl⟩) q1 q2 w2
                (fun i2 cs j2 d2 hi2 hj2 => by obtain ⟨u, hu, _⟩ := ky i2 cs j2 d2 hi2 hj2; rw [hu]; rfl)
                (fun i2 cs j2 d2 hi2 hj2 => by obtain ⟨u, hu, hd⟩ := ky i2 cs j2 d2 hi2 hj2; rw [hu]; exact hd)
      refine DenD.sl esz (subL ds lo hi) _ _ _ (fun i j => (w.cell? ⟨(ρ1.loc (.root id)).b, (ρ1.loc (.root id)).base + lo * esz + i * esz + j, .none⟩).getD Go.undef) (.inr ⟨.root id, ⟨_, hb, by simp, fun _ => by omega⟩, rfl⟩) (by omega) (by omega) (fun es hes => ?_)
        (fun i cs j d hi' hj => by obtain ⟨u, hu, _⟩ := key i cs j d hi' hj; rw [hu]; rfl)
        (fun i cs j d hi' hj => by obtain ⟨u, hu, hd⟩ := key i cs j d hi' hj; rw [hu]; exact hd)
      obtain ⟨i, hi'⟩ := List.getElem?_of_mem hes
      have hi2 := subL_get ds lo hi i es hi'
      have hlt : lo + i < elems.length := by rw [hl]; exact (List.getElem?_eq_some_iff.1 hi2).1
      have hi3 := List.getElem?_eq_getElem hlt
      obtain ⟨hlc, _⟩ := hcd _ _ _ hi3 hi2
      rw [← hlc]
      exact g4 _ (List.getElem_mem hlt)

theorem FrzR.den {ρ ρ1 : Rho} {m1 : Mem} {w : World} (hM : MemRel ρ1 m1 w) {c c' : RV} (h : FrzR m1 c c') {v : Value} (hd : DenR ρ1 w c v) : DenR (ρ.frz ρ1 m1) w c' v := by
  cases h with
  | one h => exact h.den hM hd
  | agg hl h =>
    obtain ⟨vs, rfl, h1, h2⟩ := hd
    refine ⟨vs, rfl, h1.trans hl, fun i c' hi => ?_⟩
    rename_i cs cs'
    have hlt : i < cs.length := by rw [hl]; exact (List.getElem?_eq_some_iff.1 hi).1
    obtain ⟨u, hu, hd⟩ := h2 i _ (List.getElem?_eq_getElem hlt)
    exact ⟨u, hu, (h i _ _ (List.getElem?_eq_getElem hlt) hi).den hM hd⟩
theorem FrzV.den {ρ ρ1 : Rho} {m1 : Mem} {w : World} (hM : MemRel ρ1 m1 w) {c c' : CV} (h : FrzV m1 c c') {v : Value} (hd : DenV ρ1 w c v) : DenV (ρ.frz ρ1 m1) w c' v := by
  cases h with
  | rv h => exact h.den hM hd
  | tup hl h =>
    obtain ⟨vs, rfl, h1, h2⟩ := hd
    refine ⟨vs, rfl, h1.trans hl, fun i c' hi => ?_⟩
    rename_i cs cs'
    have hlt : i < cs.length := by rw [hl]; exact (List.getElem?_eq_some_iff.1 hi).1
    obtain ⟨u, hu, hd⟩ := h2 i _ (List.getElem?_eq_getElem hlt)
    exact ⟨u, hu, (h i _ _ (List.getElem?_eq_getElem hlt) hi).den hM hd⟩

/-- data, and nothing else -/
def CC.isD : CC → Bool
  | .dat _ => true
  | .fn _ [] => true
  | _ => false
def CV.isD : CV → Bool
  | .rv (.one c) => c.isD
  | .rv (.agg cs) => cs.all CC.isD
  | _ => false
theorem CC.isD_den {ρ ρ' : Rho} {w : World} {c : CC} {v : Value} (hc : c.isD = true) (hS : ∀ b, ρ.S b → ρ'.S b) (h : DenC ρ w .none c v) : DenC ρ' w .none c v := by
  cases c
  case dat d => exact DenD.mono (S := ρ.S) (S' := ρ'.S) (w := w) (w' := w) hS (fun _ _ => rfl) h
  case fn f caps =>
    cases caps with
    | nil => exact ⟨by simp, h.2⟩
    | cons c r => simp [CC.isD] at hc
  all_goals simp [CC.isD] at hc
theorem CV.isD_den {ρ ρ' : Rho} {w : World} {c : CV} {v : Value} (hc : c.isD = true) (hS : ∀ b, ρ.S b → ρ'.S b) (h : DenV ρ w c v) : DenV ρ' w c v := by
  cases c with
  | rv r =>
    cases r with
    | one c => exact CC.isD_den hc hS h
    | agg cs =>
      obtain ⟨vs, rfl, h1, h2⟩ := h
      refine ⟨vs, rfl, h1, fun i c hi => ?_⟩
      obtain ⟨u, hu, hd⟩ := h2 i c hi
      exact ⟨u, hu, CC.isD_den (List.all_eq_true.1 hc c (List.mem_of_getElem? hi)) hS hd⟩
  | _ => simp [CV.isD] at hc

/-- **IN WHATEVER MEMORY**: arguments that are data; what was made is data from then on -/
theorem acall_frame {f : Nat} {args : List CV} {m : Mem} {K0 K : CV → Mem → Prop} (h : ACall P f args [] K0) (ha : ∀ c, c ∈ args → c.isD = true)
    (hK : ∀ r m1, K0 r m1 → ∃ r', FrzV m1 r r' ∧ K r' m) : ACall P f args m K := by
  refine ⟨h.1, fun ρ w vs hM hl hd => ?_⟩
  let ρ0 : Rho := { n := 0, loc := fun _ => ⟨0, 0, 0, 0⟩, S := ρ.S }
  have hM0 : MemRel ρ0 [] w := {
    n := rfl
    S := hM.S
    live := fun k h => by have := h.id_lt; simp at this
    inj := fun k k' h => by have := h.id_lt; simp at this
    bk := fun id b h => by simp at h
    own := fun id i j esz elems h => by obtain ⟨_, _, _, h, _⟩ := h; simp at h }
  refine (h.2 ρ0 w vs hM0 hl fun i c hi => ?_).mono fun e w' ⟨v, r, m1, ρ1, he, hk, hM1, hd1, hx⟩ => ?_
  · obtain ⟨v, hv, hd⟩ := hd i c hi
    exact ⟨v, hv, CV.isD_den (ρ := ρ) (ρ' := ρ0) (ha c (List.mem_of_getElem? hi)) (fun _ h => h) hd⟩
  · obtain ⟨r', hf, hk'⟩ := hK r m1 hk
    have hnl : ∀ k, ¬ Live ρ0 [] k := fun k h => by have := h.id_lt; simp at this
    have hfr : ∀ b, b < w.heap.size → w'.heap[b]? = w.heap[b]? := fun b hb => hx.frame b hb fun k hk => absurd hk (hnl k)
    have hS' : ∀ b, (ρ.frz ρ1 m1).S b → ρ.S b ∨ w.heap.size ≤ b := by
      rintro b (hb | ⟨k, hk, rfl⟩)
      · rcases hx.S' b hb with h | h | ⟨k, hk, _⟩
        · exact .inl h
        · exact .inr h
        · exact absurd hk (hnl k)
      · rcases hx.live k hk with h | ⟨k0, h0, _⟩
        · exact .inr h
        · exact absurd h0 (hnl k0)
    have hlv : ∀ k, Live (ρ.frz ρ1 m1) m k ↔ Live ρ m k := fun k => by cases k <;> rfl
    have g : Goes ρ w (ρ.frz ρ1 m1) w' := ⟨Nat.le_refl _, fun _ _ => rfl, fun b hb => .inl (hx.S b hb), fun b hb => hfr b (hM.S b hb)⟩
    refine ⟨v, r', m, ρ.frz ρ1 m1, he, hk', ⟨hM.n, ?_, ?_, ?_, ?_, ?_⟩, hf.den hM1 hd1, ⟨Nat.le_refl _, fun _ _ => rfl, g.S, ?_, ?_, fun b hb _ => hfr b hb, hx.size, hx.os, hx.tape, hx.output⟩⟩
    · intro b hb
      rcases hb with hb | ⟨k, hk, rfl⟩
      · exact hM1.S b hb
      · exact (hM1.live k hk).1
    · intro k hk
      have h1 := hM.live k ((hlv k).1 hk)
      refine ⟨Nat.lt_of_lt_of_le h1.1 hx.size, fun hS => ?_⟩
      rcases hS' _ hS with h | h
      · exact h1.2 h
      · have : (ρ.loc k).b < w.heap.size := h1.1
        have h' : w.heap.size ≤ (ρ.loc k).b := h
        omega
    · exact fun k k' hk hk' => hM.inj k k' ((hlv k).1 hk) ((hlv k').1 hk')
    · intro id b hb
      have h1 := hM.bk id b hb
      have hcur : ∀ {mk : Prop} cur, ((∃ k, k.id = id ∧ Live ρ m k ∧ (ρ.loc k).b = (ρ.loc (.root id)).b)) → Cur mk w (ρ.loc (.root id)).b cur → Cur mk w' (ρ.loc (.root id)).b cur := fun {mk} cur _ hc => hc.same (hfr _ hc.lt)
      cases b with
      | dead => trivial
      | var cs =>
        obtain ⟨cur, hcur, h2⟩ := h1
        exact ⟨cur, hcur.same (hfr _ hcur.lt), fun j c hj => let ⟨u, hu, hd⟩ := h2 j c hj; ⟨u, hu, DenC.goes g (by simp) hd⟩⟩
      | row esz elems =>
        obtain ⟨h2, h3, h4, h5, h6⟩ := h1
        refine ⟨h2, h3, h4, h5, fun hp => ?_⟩
        obtain ⟨cur, hcur, h7, h8⟩ := h6 hp
        exact ⟨cur, hcur.same (hfr _ hcur.lt), h7, fun i cs j c hi hj => let ⟨u, hu, hd⟩ := h8 i cs j c hi hj; ⟨u, hu, DenC.goes g (by
          intro id' i' j' e'
          cases e'
          rw [hM.n]
          exact (List.getElem?_eq_some_iff.1 hb).1) hd⟩⟩
      | mp es =>
        obtain ⟨es', ck, h2, h3, h4⟩ := h1
        exact ⟨es', ck, ⟨(hfr _ (Array.getElem?_eq_some_iff.1 h2.1).1).trans h2.1, h2.2⟩, h3, fun i e he => let ⟨e', he', hk, hd⟩ := h4 i e he; ⟨e', he', hk, DenR.goes g hd⟩⟩
      | it cur left =>
        obtain ⟨mb, seen, ck, es', h2, h3, h4, h5, h6⟩ := h1
        exact ⟨mb, seen, ck, es', (hfr _ (Array.getElem?_eq_some_iff.1 h2).1).trans h2, h3, g.S _ h4, (g.heap mb h4).trans h5, h6⟩
    · intro id i j esz el ho hcap
      obtain ⟨cur, hcur, h2, h3, h4⟩ := hM.own id i j esz el ho hcap
      exact ⟨cur, hcur.same (hfr _ hcur.lt), h2, h3, fun i cs j d hi hj => let ⟨u, hu, hd⟩ := h4 i cs j d hi hj; ⟨u, hu, DenD.mono g.S g.heap hd⟩⟩
    · intro b hb
      rcases hS' b hb with h | h
      · exact .inl h
      · exact .inr (.inl h)
    · intro k hk
      exact .inr ⟨k, (hlv k).1 hk, rfl⟩

def RV.isD : RV → Bool
  | .one c => c.isD
  | .agg cs => cs.all CC.isD
def CV.isDT : CV → Bool
  | .rv r => r.isD
  | .tup rs => rs.all RV.isD
  | _ => false
theorem FrzC.self {m : Mem} {c : CC} (h : c.isD = true) : FrzC m c c := by
  cases c
  case dat d => exact .dat _
  case fn f caps =>
    cases caps with
    | nil => exact .fn f
    | cons c r => simp [CC.isD] at h
  all_goals simp [CC.isD] at h
theorem FrzR.self {m : Mem} {r : RV} (h : r.isD = true) : FrzR m r r := by
  cases r with
  | one c => exact .one (FrzC.self h)
  | agg cs =>
    refine .agg rfl fun i c c' h1 h2 => ?_
    rw [h1] at h2; cases h2
    exact FrzC.self (List.all_eq_true.1 h c (List.mem_of_getElem? h1))
theorem FrzV.self {m : Mem} {v : CV} (h : v.isDT = true) : FrzV m v v := by
  cases v with
  | rv r => exact .rv (FrzR.self h)
  | tup rs =>
    refine .tup rfl fun i c c' h1 h2 => ?_
    rw [h1] at h2; cases h2
    exact FrzR.self (List.all_eq_true.1 h c (List.mem_of_getElem? h1))
  | _ => simp [CV.isDT] at h
/-- a function of data that answers one thing, which is data -/
theorem acall_val {f : Nat} {fn : Func} {lf : LF} {args : List CV} {r0 : CV} (hf : P.funcs[f]? = some fn) (hl : lowF P fn = some lf) (hn : (fn.name == "runtime.NumGoroutine") = false) (hle : args.length ≤ lf.n)
    (h : body P lf args [] fun r _ => r = r0) (ha : args.all CV.isD = true) (hr : r0.isDT = true) {m : Mem} {K : CV → Mem → Prop} (hK : K r0 m) : ACall P f args m K :=
  acall_frame (acall_body hf hl hn hle h) (fun c hc => List.all_eq_true.1 ha c hc) fun r m1 he => ⟨r0, by subst he; exact .self hr, hK⟩
theorem acall_val_g {f : Nat} {fn : Func} {lf : LF} {args : List CV} {r0 : CV} (hf : P.funcs[f]? = some fn) (hl : lowF P fn = some lf.er) (hn : (fn.name == "runtime.NumGoroutine") = false) (hle : args.length ≤ lf.n)
    (h : body P lf args [] fun r _ => r = r0) (ha : args.all CV.isD = true) (hr : r0.isDT = true) {m : Mem} {K : CV → Mem → Prop} (hK : K r0 m) : ACall P f args m K :=
  acall_frame (acall_body_g hf hl hn hle h) (fun c hc => List.all_eq_true.1 ha c hc) fun r m1 he => ⟨r0, by subst he; exact .self hr, hK⟩
/-- a row of data becomes data -/
theorem FrzC.rowD {m : Mem} {id esz : Nat} {ds : List (List Dt)} (h : m[id]? = some (.row esz (ds.map fun es => es.map .dat))) (lo : Nat) (hi : Option Nat) : FrzC m (.row id esz lo hi) (.dat (.sl esz (subL ds lo hi))) := by
  refine .row id esz lo hi _ ds h (by simp) fun i cs es h1 h2 => ?_
  rw [List.getElem?_map, h2] at h1
  cases h1
  refine ⟨by simp, fun j c d h3 h4 => .inl ?_⟩
  rw [List.getElem?_map, h4] at h3
  cases h3
  rfl
end
end Go.AM
