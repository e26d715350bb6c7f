import Derived.Test.YtbemknkbegkflaaAmG
import Derived.Test.YtbemknkbegkflaaAmK
import Derived.Laws.IdiomStrings
import Derived.Laws.MakeOwn
import Derived.MapKept
import Derived.Maps.RangeRun
set_option linter.unusedVariables false
set_option linter.unusedSimpArgs false
set_option linter.unnecessarySimpa false
/-! Bytes and strings; slices that are made; maps. -/
namespace Go.AM
open Go.MapKept
section
variable {P : Program} {ρ : Rho} {m : Mem} {w : World} {env : List CV} {a : Act} {K : CV → Mem → Prop}

theorem numsC_get : ∀ {E : List (List CC)} {xs : List Int}, numsC E = some xs → E = xs.map fun n => [.dat (.val (.int .u8 n))]
  | [], xs, h => by simp [numsC] at h; subst h; rfl
  | cs :: r, xs, h => by
    unfold numsC at h
    split at h
    · rename_i heq; cases heq
    · rename_i n r' heq
      cases heq
      split at h
      · rename_i l hl
        cases h
        rw [numsC_get hl]; rfl
      · cases h
    · cases h
theorem b2s_sound (hM : MemRel ρ m w) (hE : EnvRel ρ w env a.tmps) {s d e : TypeId} {x : Operand} {x' : X} (hs : P.underlying s = some (.slice e)) (he : P.underlying e = some (.int .u8)) (hd : P.underlying d = some .string) (hx : lowX x = some x')
    (h : step P (.b2s x') env m K) : Res P (do pure (Next.value (← convert s d (a.eval x)))) ρ m w K := by
  have hden := lowX_den hE hx
  simp only [step] at h
  obtain ⟨E, hE1, h⟩ := ok_iff.1 h
  obtain ⟨xs, hxs, hK⟩ := ok_iff.1 h
  obtain ⟨ad, cap, vs, hv, h1, h2, F⟩ := sl_flat hM hE1 hden
  have hEx := numsC_get hxs
  have hvs : ∀ i, i < xs.length → vs[i]? = some (.int .u8 (xs.getD i 0)) := by
    intro i hi
    have hg : E[i]? = some [.dat (.val (.int .u8 xs[i]))] := by rw [hEx, List.getElem?_map, List.getElem?_eq_getElem hi]; rfl
    obtain ⟨u, hu, hdu⟩ := F.den i _ 0 _ hg rfl
    cases hdu with
    | val v hp =>
      rw [show i = i * 1 + 0 by omega, hu]
      simp [List.getD, List.getElem?_eq_getElem hi]
  have hlen : E.length = xs.length := by rw [hEx]; simp
  refine Res.pure hM (v := .string (strOfNums xs)) ?_ hK (den_mkPlain rfl)
  rw [hv, Sem.run_bind]
  rcases Nat.eq_zero_or_pos E.length with h0 | h0
  · have hx0 : xs = [] := List.eq_nil_of_length_eq_zero (by omega)
    subst hx0
    rw [h0]
    cases ad with
    | none => rw [run_convert_bytes_nil (P := P) w s e hs he 0 cap d hd]; rfl
    | some ad =>
      obtain ⟨b, off, sp⟩ := ad
      have : (convert s d (.slice (some ⟨b, off, sp⟩) 0 cap)).run P w = .ok (.string (strOfNums [])) w := by
        rw [run_convert_bytes_string w s d e _ 0 cap hs he hd, run_bytesToString w _ 0 cap [] (by simp [loadCells, loadCellsFrom])]
        rfl
      rw [this]; rfl
  · obtain ⟨b, off, rfl, hc⟩ := F.at_ h0
    rw [run_convert_bytes_arg (P := P) w s e hs he b off E.length cap xs hlen.symm (fun i hi => hc i _ (hvs i (by omega))) d hd]
    rfl

/-- a new block: a row, whatever mark it bears behind its end -/
theorem push_row_gen (hM : MemRel ρ m w) {esz cap : Nat} {elems : List (List CC)} {cells : Array Value} {w' : World} (hwd : Wider w w') (hcur : Cur (esz = 1) w' w.heap.size cells)
    (hsz : cap * esz ≤ cells.size) (hlen : elems.length ≤ cap) (hcap : cap ≤ maxLen) (hes : ∀ cs, cs ∈ elems → cs.length = esz)
    (hd : ∀ (i : Nat) cs (j : Nat) c, elems[i]? = some cs → cs[j]? = some c → ∃ u, cells[i * esz + j]? = some u ∧ DenC ρ w .none c u) :
    ∃ ρ', MemRel ρ' (m ++ [.row esz elems]) w' ∧ Ext ρ m w ρ' (m ++ [.row esz elems]) w' ∧
      DenV ρ' w' (.rv (.one (.row m.length esz 0 none))) (.slice (some ⟨w.heap.size, 0, none⟩) elems.length cap) := by
  have hlt : w.heap.size < w'.heap.size := hcur.lt
  let l : Loc := ⟨w.heap.size, 0, elems.length, cap⟩
  have hn := hM.n
  have hloc : (ρ.push l).loc (.root m.length) = l := by rw [← hn]; exact ρ.push_new l
  have g : Goes ρ w (ρ.push l) w' := ⟨by simp [Rho.push], fun k hk => ρ.push_old l hk, fun b hb => hb, fun b hb => hwd.heap b (hM.S b hb)⟩
  have hb : BkRel (ρ.push l) w' m.length (.row esz elems) := by
    refine ⟨by rw [hloc], by rw [hloc]; exact hlen, by rw [hloc]; exact hcap, hes, fun _ => ⟨cells, by rw [hloc]; exact hcur, by rw [hloc]; simpa [l] using hsz, fun i cs j c hi hj => ?_⟩⟩
    obtain ⟨u, hu, hdu⟩ := hd i cs j c hi hj
    exact ⟨u, by rw [hloc]; simpa [l] using hu, (hdu.goes g (by simp)).anyPos _⟩
  obtain ⟨h1, h2⟩ := hM.push (l := l) hwd (Nat.le_refl _) hlt hb (fun i cs j c hi hj => by
    obtain ⟨u, hu, hdu⟩ := hd i cs j c hi hj
    exact hdu.notOwn)
  refine ⟨_, h1, h2, by simp [Rho.push, hn], ?_⟩
  rw [hloc]
  refine ⟨by simp, by simp, hlen, hcap, _, rfl, fun _ => ?_⟩
  simp [l]

theorem s2b_sound (hM : MemRel ρ m w) (hE : EnvRel ρ w env a.tmps) {s d e : TypeId} {x : Operand} {x' : X} (hs : P.underlying s = some .string) (hd : P.underlying d = some (.slice e)) (he : P.underlying e = some (.int .u8)) (hx : lowX x = some x')
    (h : step P (.s2b x') env m K) : Res P (do pure (Next.value (← convert s d (a.eval x)))) ρ m w K := by
  have hden := lowX_den hE hx
  simp only [step] at h
  generalize a.eval x = v at hden ⊢
  generalize x'.ev env = c at hden h
  split at h
  · rename_i str
    obtain ⟨rfl, hp⟩ := den_plain hden
    obtain ⟨hsz, hK⟩ := h
    rw [lenK_eq, app2_eq] at hK
    have hge := grownCap_ge w str.size 0 e
    have hle : grownCap w str.size 0 e ≤ maxLen := grownCap_le_maxLen w _ 0 e (by unfold maxLen; omega)
    have hcs : (bytesRow str (grownCap w str.size 0 e)).size = grownCap w str.size 0 e := by
      simp only [bytesRow, Array.size_append, Array.size_map, Array.size_replicate]
      have : str.data.size = str.size := rfl
      omega
    have hlen : (bytesR str).length = str.size := by simp [bytesR]
    obtain ⟨ρ', g1, g2, g3⟩ := push_row_gen hM (esz := 1) (cap := grownCap w str.size 0 e) (elems := bytesR str) (cells := bytesRow str (grownCap w str.size 0 e))
      (w' := w.drew.alloc (.cells (bytesRow str (grownCap w str.size 0 e)) e ((bytesRow str (grownCap w str.size 0 e)).size, (bytesRow str (grownCap w str.size 0 e)).size + 1)))
      ((Wider.drew w).trans (Wider.alloc w.drew _)) ⟨e, _, heap_alloc_new w.drew _, by simp, (fun i hi => by simp; omega), .inl rfl⟩ (by rw [hcs]; omega) (by rw [hlen]; exact hge) hle
      (fun cs hcs => by simp only [bytesR, List.mem_map] at hcs; obtain ⟨_, _, rfl⟩ := hcs; rfl)
      (fun i cs j c hi hj => by
        simp only [bytesR, List.getElem?_map] at hi
        obtain ⟨b, hb, rfl⟩ := Option.map_eq_some_iff.1 hi
        cases j with
        | zero =>
          simp at hj
          subst hj
          refine ⟨.int .u8 b.toNat, ?_, .val _ rfl⟩
          have hb' : str.data[i]? = some b := by simpa using hb
          have hlt := (Array.getElem?_eq_some_iff.1 hb').1
          simp only [bytesRow, Nat.mul_one, Nat.add_zero]
          rw [Array.getElem?_append_left (by simpa using hlt), Array.getElem?_map, hb']
          rfl
        | succ j => simp at hj)
    rw [hlen] at g3
    exact ⟨_, _, _, _, _, ρ', by rw [Sem.run_bind, run_bytes_of_string w s d e str hs hd he]; rfl, .inl rfl, hK, g1, g3, g2⟩
  · exact h.elim

theorem mkslice_sound (hM : MemRel ρ m w) (hE : EnvRel ρ w env a.tmps) {t e : TypeId} {i : TypeInfo} {z : List CC} {x y : Operand} {x' y' : X}
    (ht : P.underlying t = some (.slice e)) (hi : P.info? e = some i) (hz : zeroOf P e = some z) (hsz : i.size = z.length) (hpos : 0 < z.length) (hb : 0 < i.bytes) (hx : lowX x = some x') (hy : lowX y = some y')
    (h : step P (.mkslice i.size i.bytes z x' y') env m K) : Res P (do pure (Next.value (← Instr.makeSlice t (a.eval x) (a.eval y)))) ρ m w K := by
  simp only [step] at h
  obtain ⟨l, hl, h⟩ := ok_iff.1 h
  obtain ⟨c, hc, h⟩ := ok_iff.1 h
  rcases bB_iff.1 h with ⟨hlc, h⟩ | ⟨_, h⟩
  case inr => exact h.elim
  have hlc : l = c := Nat.eq_of_beq_eq_true hlc
  subst hlc
  obtain ⟨hfit, hK⟩ := h
  rw [lenK_eq, app2_eq] at hK
  have nat : ∀ {c : CV} {v : Value} {k : Nat}, natX c = some k → DenV ρ w c v → ∃ kd, v = .int kd (k : Int) := by
    intro c v k h hd
    unfold natX at h
    split at h
    · cases h
      obtain ⟨rfl, _⟩ := den_plain hd
      exact ⟨_, rfl⟩
    · cases h
  obtain ⟨kl, hvl⟩ := nat hl (lowX_den hE hx)
  obtain ⟨kc, hvc⟩ := nat hc (lowX_den hE hy)
  have hz0 := hz
  simp only [zeroOf, Option.bind_eq_bind, Option.bind_eq_some_iff] at hz0
  obtain ⟨i', hi', zv, hzv, hzc⟩ := hz0
  rw [hi] at hi'
  cases hi'
  obtain ⟨hzl, hzd⟩ := lowCells_den (ρ := ρ) (w := w) hzc
  have hzs : zv.cells.size = z.length := by simpa using hzl
  have hsm : l ≤ 140737488355328 := Nat.le_trans (Nat.le_mul_of_pos_right _ hb) hfit
  obtain ⟨ρ', g1, g2, g3⟩ := push_row_gen hM (esz := i.size) (cap := l) (elems := repl l z) (cells := madeCells zv.cells (l * i.size)) (w' := w.alloc (.cells (madeCells zv.cells (l * i.size)) e))
    (Wider.alloc w _) (Cur.new w _ e) (by rw [size_madeCells]; exact Nat.le_refl _) (by rw [repl_eq]; simp) (by unfold maxLen; omega)
    (fun cs hcs => by rw [repl_eq] at hcs; rw [List.eq_of_mem_replicate hcs, hsz])
    (fun k cs j cc hk hj => by
      rw [repl_eq] at hk
      have hk1 := (List.getElem?_eq_some_iff.1 hk).1
      simp at hk1
      have hcs : cs = z := by
        have := List.mem_of_getElem? hk
        exact List.eq_of_mem_replicate this
      subst hcs
      have hj1 := (List.getElem?_eq_some_iff.1 hj).1
      obtain ⟨u, hu, hdu⟩ := hzd j cc hj
      refine ⟨u, ?_, hdu⟩
      have hlt : k * i.size + j < l * i.size := by
        have : (k + 1) * i.size ≤ l * i.size := Nat.mul_le_mul_right _ hk1
        rw [Nat.add_mul, Nat.one_mul] at this
        omega
      simp only [madeCells, Array.getElem?_map, Array.getElem?_range]
      rw [if_pos hlt]
      simp only [Option.map_some, Option.some.injEq]
      have hm : (k * i.size + j) % zv.cells.size = j := by
        rw [hzs, hsz, Nat.mul_comm, Nat.mul_add_mod, Nat.mod_eq_of_lt hj1]
      rw [hm]
      have hu' : zv.cells[j]? = some u := by simpa using hu
      rw [getElem!_def, hu'])
  have hll : (repl l z).length = l := by rw [repl_eq]; simp
  rw [hll] at g3
  refine ⟨_, _, _, _, _, ρ', ?_, .inl rfl, hK, g1, g3, g2⟩
  rw [hvl, hvc, Sem.run_bind, run_make (P := P) w t e i zv ht hi hzv kl kc (l : Int) (l : Int) (by omega) (Int.le_refl _) ?_ (by omega)]
  · rfl
  · have : i.bytes * l ≤ 140737488355328 := by rw [Nat.mul_comm]; exact hfit
    have h2 : ((i.bytes * l : Nat) : Int) ≤ ((140737488355328 : Nat) : Int) := Int.ofNat_le.2 this
    rw [Int.natCast_mul] at h2
    exact Int.le_trans h2 (by omega)

/-! ### maps -/
def kyDesc : Ky → TypeDesc
  | .i k => .int k
  | .s => .string
  | .b => .bool
theorem kdOf_spec {t : TypeId} {kk : Ky} (h : kdOf P t = some kk) : P.underlying t = some (kyDesc kk) := by
  unfold kdOf at h
  split at h <;> simp at h <;> subst h <;> assumption
theorem kdOk_key {kk : Ky} {v : Value} (h : kdOk kk v = true) : IsKey (kyDesc kk) v := by
  cases kk <;> cases v <;> simp_all [kdOk, IsKey, kyDesc]
theorem keyEq_now {kk : Ky} {a b : Value} {t : Bool} (ha : kdOk kk a = true) (h : keyEq a b = some t) : Instr.sameNow (kyDesc kk) a b = some t ∧ (t = true → a = b) ∧ (t = false → a ≠ b) := by
  cases kk <;> cases a <;> simp [kdOk] at ha <;> cases b <;> simp only [keyEq, reduceCtorEq] at h
  · rename_i k x k' y
    split at h
    · rename_i hk
      have hk := of_decide_eq_true hk
      subst hk
      cases h
      refine ⟨by simp [Instr.sameNow, kyDesc], fun h => by simp at h; rw [h], fun h => by simp at h; simpa using h⟩
    · cases h
  · rename_i x y
    cases h
    refine ⟨by simp [Instr.sameNow, kyDesc], fun h => by rw [(bytes_beq _ _).1 h], fun h e => ?_⟩
    cases e
    rw [(bytes_beq _ _).2 rfl] at h
    cases h
  · rename_i x y
    cases h
    refine ⟨by simp [Instr.sameNow, kyDesc], fun h => by simp at h; rw [h], fun h => by simp at h; simpa using h⟩
theorem mFind_sound {kk : Ky} {kv : Value} (hk : kdOk kk kv = true) : ∀ (es : List ME) (es' : List MapEntry) (n : Nat) (o : Option RV), es'.length = es.length →
    (∀ (i : Nat) e, es[i]? = some e → ∃ e', es'[i]? = some e' ∧ e'.key = e.key ∧ DenR ρ w e.val e'.val) → mFind kv es = some o →
    match o with
    | none => Instr.findNow (kyDesc kk) kv es' n = some none
    | some r => ∃ j v, Instr.findNow (kyDesc kk) kv es' n = some (some (n + j, v)) ∧ DenR ρ w r v
  | [], [], n, o, _, _, h => by
    simp [mFind] at h
    subst h
    rfl
  | [], _ :: _, _, _, h, _, _ => by simp at h
  | _ :: _, [], _, _, h, _, _ => by simp at h
  | e :: es, e' :: es', n, o, hl, hr, h => by
    obtain ⟨e0, h0, hkey, hden⟩ := hr 0 e rfl
    simp at h0
    subst h0
    simp only [mFind] at h
    cases hq : keyEq kv e.key with
    | none => rw [hq] at h; cases h
    | some t =>
      obtain ⟨q1, q2, q3⟩ := keyEq_now hk hq
      rw [← hkey] at q1
      cases t with
      | true =>
        rw [hq] at h
        cases h
        exact ⟨0, e'.val, by simp [Instr.findNow, q1], hden⟩
      | false =>
        rw [hq] at h
        have ih := mFind_sound hk es es' (n + 1) o (by simpa using hl) (fun i x hx => by simpa using hr (i + 1) x (by simpa using hx)) h
        cases o with
        | none => simpa [Instr.findNow, q1] using ih
        | some r =>
          obtain ⟨j, v, h1, h2⟩ := ih
          exact ⟨j + 1, v, by simp [Instr.findNow, q1, h1]; omega, h2⟩
theorem mSet_sound {kk : Ky} {kv : Value} (hk : kdOk kk kv = true) (r : RV) : ∀ (es : List ME) (es' : List MapEntry) (n : Nat) (l : List ME), es'.length = es.length →
    (∀ (i : Nat) e, es[i]? = some e → ∃ e', es'[i]? = some e' ∧ e'.key = e.key ∧ DenR ρ w e.val e'.val) → mSet kv r es = some l →
    (Instr.findNow (kyDesc kk) kv es' n = some none ∧ l = es ++ [⟨kv, r⟩]) ∨ ∃ j e', Instr.findNow (kyDesc kk) kv es' n = some (some (n + j, e'.val)) ∧ es'[j]? = some e' ∧ e'.key = kv ∧ l = es.set j ⟨kv, r⟩
  | [], [], n, o, _, _, h => by
    simp [mSet] at h
    subst h
    exact .inl ⟨rfl, rfl⟩
  | [], _ :: _, _, _, h, _, _ => by simp at h
  | _ :: _, [], _, _, h, _, _ => by simp at h
  | e :: es, e' :: es', n, o, hl, hr, h => by
    obtain ⟨e0, h0, hkey, hden⟩ := hr 0 e rfl
    simp at h0
    subst h0
    simp only [mSet] at h
    cases hq : keyEq kv e.key with
    | none => rw [hq] at h; cases h
    | some t =>
      obtain ⟨q1, q2, q3⟩ := keyEq_now hk hq
      rw [← hkey] at q1
      cases t with
      | true =>
        rw [hq] at h
        cases h
        exact .inr ⟨0, e', by simp [Instr.findNow, q1], rfl, by rw [hkey, q2 rfl], rfl⟩
      | false =>
        rw [hq] at h
        simp only at h
        split at h
        · rename_i l' hl'
          cases h
          rcases mSet_sound hk r es es' (n + 1) l' (by simpa using hl) (fun i x hx => by simpa using hr (i + 1) x (by simpa using hx)) hl' with ⟨h1, rfl⟩ | ⟨j, e1, h1, h2, h3, rfl⟩
          · exact .inl ⟨by simpa [Instr.findNow, q1] using h1, rfl⟩
          · exact .inr ⟨j + 1, e1, by simp [Instr.findNow, q1, h1]; omega, by simpa using h2, h3, rfl⟩
        · cases h
theorem mkmap_sound (hM : MemRel ρ m w) {t : TypeId} {r : Option Value} (hr : r = none ∨ ∃ k n kt et, r = some (.int k n) ∧ P.underlying t = some (.map kt et)) (h : step P .mkmap env m K) : Res P (do pure (Next.value (← Instr.makeMap t r))) ρ m w K := by
  simp only [step, lenK_eq, app2_eq] at h
  let l : Loc := ⟨w.heap.size, 0, 0, 0⟩
  have hn := hM.n
  have hloc : (ρ.push l).loc (.root m.length) = l := by rw [← hn]; exact ρ.push_new l
  obtain ⟨h1, h2⟩ := hM.push (bk := .mp []) (l := l) (Wider.alloc w (.map #[] 0)) (Nat.le_refl _) (by simp [l]) (by
    refine ⟨#[], 0, ⟨?_, by simp, by simp⟩, rfl, by simp⟩
    rw [hloc]
    exact (heap_alloc w _).1) trivial
  refine ⟨.value (.map (some w.heap.size)), .map (some w.heap.size), w.alloc (.map #[] 0), _, _, _, ?_, .inl rfl, h, h1, ⟨by simp [Rho.push, hn], by rw [hloc]⟩, h2⟩
  rcases hr with rfl | ⟨k, n, kt, et, rfl, ht⟩
  · simp [Instr.makeMap]
  · simp [Instr.makeMap, run_underlying ht, asInt, asIntOf]
theorem zeroR_run {t : TypeId} {z : RV} (h : zeroR P t = some z) : ∃ v, (zeroValue t).run P w = .ok v w ∧ DenR ρ w z v := by
  simp only [zeroR, Option.bind_eq_bind, Option.bind_eq_some_iff] at h
  obtain ⟨i, hi, zv, hzv, h⟩ := h
  refine ⟨zv, by simp [zeroValue, typeInfo, hi, hzv], ?_⟩
  split at h
  · rename_i cs
    simp only [Option.bind_eq_some_iff] at h
    obtain ⟨zz, hz, h⟩ := h
    cases h
    obtain ⟨h1, h2⟩ := lowCells_den (ρ := ρ) (w := w) hz
    exact ⟨cs.toList, by simp, h1, h2⟩
  · simp only [Option.bind_eq_some_iff] at h
    obtain ⟨c, hc, h⟩ := h
    cases h
    exact constC_den hc
theorem mapEs_sound (hM : MemRel ρ m w) {c : CV} {v : Value} {es : List ME} (h : mapEs m c = some es) (hd : DenV ρ w c v) :
    (v = .map none ∧ es = []) ∨ ∃ b es' clock, v = .map (some b) ∧ w.heap[b]? = some (.map es' clock) ∧ MapRel ρ w es es' := by
  unfold mapEs at h
  split at h
  · rename_i id
    split at h
    · rename_i es0 hb
      cases h
      rw [nth_eq] at hb
      obtain ⟨hlt, rfl⟩ := hd
      obtain ⟨es', clock, h1, h2⟩ := hM.bk id _ hb
      exact .inr ⟨_, es', clock, rfl, h1.1, h2⟩
    · cases h
  · cases h
    obtain ⟨rfl, _⟩ := den_plain hd
    exact .inl ⟨rfl, rfl⟩
  · cases h
theorem mget_sound (hM : MemRel ρ m w) (hE : EnvRel ρ w env a.tmps) {t kt vt : TypeId} {z : RV} {kk : Ky} {x k : Operand} {x' k' : X} {b : Bool} (ht : P.underlying t = some (.map kt vt)) (hz : zeroR P vt = some z) (hk : kdOf P kt = some kk)
    (hx : lowX x = some x') (hkx : lowX k = some k') (h : step P (.mget z kk x' k' b) env m K) : Res P (do pure (Next.value (← Instr.lookup t (a.eval x) (a.eval k) b))) ρ m w K := by
  have hdx := lowX_den hE hx
  have hdk := lowX_den hE hkx
  simp only [step] at h
  generalize a.eval x = xv at hdx ⊢
  generalize a.eval k = kv at hdk ⊢
  generalize k'.ev env = kc at hdk h
  split at h
  · rename_i kval
    rcases bB_iff.1 h with ⟨hok, h⟩ | ⟨_, h⟩
    case inr => exact h.elim
    obtain ⟨rfl, hkp⟩ := den_plain hdk (fun e => by subst e; cases kk <;> simp [kdOk] at hok)
    obtain ⟨es, hes, h⟩ := ok_iff.1 h
    obtain ⟨o, ho, hK⟩ := ok_iff.1 h
    have hkt := kdOf_spec hk
    have hkey := kdOk_key hok
    obtain ⟨zv, hzr, hzd⟩ := zeroR_run (ρ := ρ) (w := w) hz
    have den : ∀ (v : Value) (r : RV) (t : Bool), DenR ρ w r v → (b = true → DenV ρ w (.tup [r, .one (.dat (.val (.bool t)))]) (.tuple #[v, .bool t])) := fun v r t hv _ =>
      ⟨[v, .bool t], rfl, rfl, fun i r' hi => by
        match i, hi with
        | 0, hi => cases hi; exact ⟨v, rfl, hv⟩
        | 1, hi => cases hi; exact ⟨_, rfl, .val _ rfl⟩⟩
    have go : ∀ (r : Option Nat) (es' : List MapEntry) (em : Bool), (∀ (o' : Option (Nat × Value)), Instr.findNow (kyDesc kk) kv es' 0 = some o' →
        (Instr.lookup t (.map r) kv b).run P w = ((match o' with | some (_, v) => (Pure.pure (v, true) : Sem (Value × Bool)) | none => (do pure (← zeroValue vt, false))).run P w).andThen fun p w' => .ok (if b then .tuple #[p.1, .bool p.2] else p.1) w') →
        (es'.length = es.length ∧ ∀ (i : Nat) e, es[i]? = some e → ∃ e', es'[i]? = some e' ∧ e'.key = e.key ∧ DenR ρ w e.val e'.val) → Res P (do pure (Next.value (← Instr.lookup t (.map r) kv b))) ρ m w K := by
      intro r es' em hrun hrel
      have hf := mFind_sound (ρ := ρ) (w := w) hok es es' 0 o hrel.1 hrel.2 ho
      cases o with
      | none =>
        have h1 := hrun none hf
        simp only [Sem.run_bind, hzr, Result.andThen_ok, Sem.run_pure] at h1
        cases b with
        | false => exact Res.pure hM (v := zv) (by rw [Sem.run_bind, h1]; rfl) hK hzd
        | true => exact Res.pure hM (v := .tuple #[zv, .bool false]) (by rw [Sem.run_bind, h1]; rfl) hK (den zv z false hzd rfl)
      | some r =>
        obtain ⟨j, v, hf, hv⟩ := hf
        have h1 := hrun _ hf
        simp only [Sem.run_pure, Result.andThen_ok] at h1
        cases b with
        | false => exact Res.pure hM (v := v) (by rw [Sem.run_bind, h1]; rfl) hK hv
        | true => exact Res.pure hM (v := .tuple #[v, .bool true]) (by rw [Sem.run_bind, h1]; rfl) hK (den v r true hv rfl)
    rcases mapEs_sound hM hes hdx with ⟨rfl, rfl⟩ | ⟨r, es', clock, rfl, hb, hl, hr⟩
    · refine go none [] true (fun o' ho' => ?_) ⟨rfl, by simp⟩
      cases o' with
      | none => cases b <;> simp [Instr.lookup, run_underlying ht, run_checkKey hkt hkey, run_findKey hkt ho', Result.andThen, hzr]
      | some p => cases b <;> simp [Instr.lookup, run_underlying ht, run_checkKey hkt hkey, run_findKey hkt ho', Result.andThen]
    · refine go (some r) es'.toList es'.isEmpty (fun o' ho' => ?_) ⟨by simpa using hl, fun i e he => by
          obtain ⟨e', h1, h2⟩ := hr i e he
          exact ⟨e', by simpa using h1, h2⟩⟩
      cases o' with
      | none => cases b <;> simp [Instr.lookup, run_underlying ht, Go.MapKept.run_getObj_map hb, run_checkKey hkt hkey, run_findKey hkt ho', Result.andThen, hzr]
      | some p => cases b <;> simp [Instr.lookup, run_underlying ht, Go.MapKept.run_getObj_map hb, run_checkKey hkt hkey, run_findKey hkt ho', Result.andThen]
  · exact h.elim
theorem rvOf_den {c : CV} {v : Value} {r : RV} (h : rvOf c = some r) (hd : DenV ρ w c v) : DenR ρ w r v := by
  unfold rvOf at h
  split at h
  · cases h; exact hd
  · cases h
theorem Borns.push {es : Array MapEntry} {clock : Nat} (h : Borns es clock) {k v : Value} : Borns (es.push { key := k, val := v, born := clock }) (clock + 1) := by
  refine ⟨fun e he => ?_, ?_⟩
  · simp only [Array.toList_push, List.mem_append, List.mem_singleton] at he
    rcases he with he | rfl
    · exact Nat.lt_succ_of_lt (h.1 e he)
    · exact Nat.lt_succ_self _
  · rw [Array.toList_push, List.map_append, List.nodup_append]
    refine ⟨h.2, by simp, fun a ha b hb => ?_⟩
    obtain ⟨e, he, rfl⟩ := List.mem_map.1 ha
    simp at hb
    subst hb
    exact Nat.ne_of_lt (h.1 e he)
theorem Borns.mod {es : Array MapEntry} {clock : Nat} (h : Borns es clock) {j : Nat} {k v : Value} : Borns (es.modify j fun e => { e with key := k, val := v }) clock := by
  have e1 : (es.modify j fun e => { e with key := k, val := v }).toList.map (·.born) = es.toList.map (·.born) := by
    apply List.ext_getElem?
    intro i
    rw [List.getElem?_map, List.getElem?_map, Array.getElem?_toList, Array.getElem?_toList, Array.getElem?_modify]
    split
    · cases es[i]? <;> rfl
    · rfl
  refine ⟨fun e he => ?_, by rw [e1]; exact h.2⟩
  have : e.born ∈ es.toList.map (·.born) := by rw [← e1]; exact List.mem_map.2 ⟨e, he, rfl⟩
  obtain ⟨x, hx, hb⟩ := List.mem_map.1 this
  rw [← hb]
  exact h.1 x hx
theorem mset_sound (hM : MemRel ρ m w) (hE : EnvRel ρ w env a.tmps) {t kt vt : TypeId} {kk : Ky} {x k v : Operand} {x' k' v' : X} (ht : P.underlying t = some (.map kt vt)) (hk : kdOf P kt = some kk)
    (hx : lowX x = some x') (hkx : lowX k = some k') (hvx : lowX v = some v') (h : step P (.mset kk x' k' v') env m K) : Res P (do Instr.mapUpdate t (a.eval x) (a.eval k) (a.eval v); pure Next.skip) ρ m w K := by
  have hdx := lowX_den hE hx
  have hdk := lowX_den hE hkx
  have hdv := lowX_den hE hvx
  simp only [step] at h
  generalize a.eval x = xv at hdx ⊢
  generalize a.eval k = kv at hdk ⊢
  generalize a.eval v = vv at hdv ⊢
  generalize x'.ev env = xc at hdx h
  split at h
  · rename_i id
    generalize k'.ev env = kc at hdk h
    split at h
    · rename_i kval
      rcases bB_iff.1 h with ⟨hok, h⟩ | ⟨_, h⟩
      case inr => exact h.elim
      obtain ⟨rfl, hkp⟩ := den_plain hdk (fun e => by subst e; cases kk <;> simp [kdOk] at hok)
      obtain ⟨bk, hbk, h⟩ := ok_iff.1 h
      rw [nth_eq] at hbk
      cases bk <;> simp only at h
      rename_i es
      obtain ⟨r, hr, h⟩ := ok_iff.1 h
      obtain ⟨l, hl, hK⟩ := ok_iff.1 h
      rw [setN_eq] at hK
      have hkt := kdOf_spec hk
      have hkey := kdOk_key hok
      have hrv := rvOf_den hr hdv
      obtain ⟨hlt, rfl⟩ := hdx
      obtain ⟨es', clock, ⟨hb, hbn⟩, hsz, hrel⟩ := hM.bk id _ hbk
      have hturn : ∀ o, Turned w { w with heap := w.heap.setIfInBounds (ρ.loc (.root id)).b o } (ρ.loc (.root id)).b := fun o =>
        ⟨fun b hne => (heap_set (o' := o) hb).2 b hne, by simp, rfl, rfl, rfl⟩
      have hlive : Live ρ m (.root id) := ⟨_, hbk, by simp, by rintro ⟨_, _, e⟩; cases e⟩
      have fin : ∀ (es2 : Array MapEntry) (clock2 : Nat), Borns es2 clock2 → (Instr.mapUpdate t (.map (some (ρ.loc (.root id)).b)) kv vv).run P w = .ok () { w with heap := w.heap.setIfInBounds (ρ.loc (.root id)).b (.map es2 clock2) } →
          (Goes ρ w ρ { w with heap := w.heap.setIfInBounds (ρ.loc (.root id)).b (.map es2 clock2) } → MapRel ρ { w with heap := w.heap.setIfInBounds (ρ.loc (.root id)).b (.map es2 clock2) } l es2) → Res P (do Instr.mapUpdate t (.map (some (ρ.loc (.root id)).b)) kv vv; pure Next.skip) ρ m w K := by
        intro es2 clock2 hbn2 hrun hmr
        obtain ⟨hM', hX⟩ := hM.upd (bk' := .mp l) hbk hlive (hturn _) (fun g => ⟨es2, clock2, ⟨(heap_set hb).1, hbn2⟩, hmr g⟩) (by
          rintro i' j' esz e ⟨es3, rows, cs2, hb2, _, _⟩
          rw [List.getElem?_set_self (by rw [← hM.n]; exact hlt)] at hb2
          cases hb2)
        refine ⟨.skip, Go.undef, _, .undef, _, ρ, ?_, .inr ⟨rfl, rfl⟩, hK, hM', rfl, hX⟩
        rw [Sem.run_bind, hrun]
        rfl
      rcases mSet_sound (ρ := ρ) (w := w) hok r es es'.toList 0 l (by simpa using hsz) (fun i e he => by
          obtain ⟨e', h1, h2⟩ := hrel i e he
          exact ⟨e', by simpa using h1, h2⟩) hl with ⟨hf, rfl⟩ | ⟨j, e', hf, hj, hje, rfl⟩
      · refine fin (es'.push { key := kv, val := vv, born := clock }) (clock + 1) (Borns.push hbn) ?_ fun g => ⟨by simp [hsz], fun i e he => ?_⟩
        · simp [Instr.mapUpdate, run_underlying ht, Go.MapKept.run_getObj_map hb, run_checkKey hkt hkey, run_findKey hkt hf, run_setObj_map _ hb, Result.andThen]
        · rcases Nat.lt_or_ge i es.length with h1 | h1
          · rw [List.getElem?_append_left h1] at he
            obtain ⟨e', h2, h3, h4⟩ := hrel i e he
            exact ⟨e', by rw [Array.getElem?_push, if_neg (by omega)]; exact h2, h3, h4.goes g⟩
          · have hi := (List.getElem?_eq_some_iff.1 he).1
            simp at hi
            have hie : i = es.length := by omega
            subst hie
            simp at he
            subst he
            exact ⟨_, by rw [Array.getElem?_push, if_pos hsz.symm], rfl, hrv.goes g⟩
      · have hj' : es'[j]? = some e' := by simpa using hj
        have hjlt := (Array.getElem?_eq_some_iff.1 hj').1
        refine fin (es'.modify j fun e => { e with key := kv, val := vv }) clock (Borns.mod hbn) ?_ fun g => ⟨by simp [hsz], fun i e he => ?_⟩
        · rw [Nat.zero_add] at hf
          simp [Instr.mapUpdate, run_underlying ht, Go.MapKept.run_getObj_map hb, run_checkKey hkt hkey, run_findKey hkt hf, run_setObj_map _ hb, Result.andThen, hj', hje, run_keyThatStays hkey]
        · rw [List.getElem?_set] at he
          by_cases hij : j = i
          · subst hij
            rw [if_pos rfl, if_pos (by omega)] at he
            cases he
            exact ⟨{ e' with key := kv, val := vv }, by rw [Array.getElem?_modify, if_pos rfl, hj']; rfl, rfl, hrv.goes g⟩
          · rw [if_neg hij] at he
            obtain ⟨e2, h2, h3, h4⟩ := hrel i e he
            exact ⟨e2, by rw [Array.getElem?_modify, if_neg hij]; exact h2, h3, h4.goes g⟩
    · exact h.elim
  · exact h.elim
/-! a range over a map -/
theorem MemRel.still (hM : MemRel ρ m w) {id : Nat} {es : List ME} (hb : m[id]? = some (.mp es)) : MemRel { ρ with S := fun b => ρ.S b ∨ b = (ρ.loc (.root id)).b } (m.set id .dead) w ∧ Ext ρ m w { ρ with S := fun b => ρ.S b ∨ b = (ρ.loc (.root id)).b } (m.set id .dead) w := by
  have hlt : id < m.length := (List.getElem?_eq_some_iff.1 hb).1
  have hlive : Live ρ m (.root id) := ⟨_, hb, by simp, by rintro ⟨_, _, e⟩; cases e⟩
  have g : Goes ρ w { ρ with S := fun b => ρ.S b ∨ b = (ρ.loc (.root id)).b } w := ⟨Nat.le_refl _, fun _ _ => rfl, fun _ h => .inl h, fun b hb => rfl⟩
  have get : ∀ {k : Nat} {b : Bk}, (m.set id .dead)[k]? = some b → (k ≠ id ∧ m[k]? = some b) ∨ (k = id ∧ b = .dead) := by
    intro k b hb
    by_cases hk : k = id
    · subst hk
      rw [List.getElem?_set_self hlt] at hb
      exact .inr ⟨rfl, by simpa using hb.symm⟩
    · rw [List.getElem?_set_ne (Ne.symm hk)] at hb
      exact .inl ⟨hk, hb⟩
  have ownOld : ∀ {k i j esz e}, OwnAt (m.set id .dead) k i j esz e → OwnAt m k i j esz e := by
    intro k i j esz e ho
    obtain ⟨es, rows, cs, hb, hi, hj⟩ := ho
    rcases get hb with ⟨_, hb⟩ | ⟨_, hb⟩
    · exact ⟨es, rows, cs, hb, hi, hj⟩
    · cases hb
  have liveOld : ∀ k, Live { ρ with S := fun b => ρ.S b ∨ b = (ρ.loc (.root id)).b } (m.set id .dead) k → Live ρ m k ∧ k ≠ .root id := by
    intro k hk
    cases k with
    | root k =>
      obtain ⟨b, hb, hn, hcap⟩ := hk
      rcases get hb with ⟨hne, hb⟩ | ⟨_, rfl⟩
      · exact ⟨⟨b, hb, hn, hcap⟩, fun e => by cases e; exact hne rfl⟩
      · exact absurd rfl hn
    | sub k i j =>
      obtain ⟨⟨esz, e, ho⟩, hcap⟩ := hk
      exact ⟨⟨⟨esz, e, ownOld ho⟩, hcap⟩, fun e => by cases e⟩
  refine ⟨⟨by simp [hM.n], ?_, ?_, fun k k' hk hk' => hM.inj k k' (liveOld k hk).1 (liveOld k' hk').1, ?_, ?_⟩,
    ⟨Nat.le_refl _, fun _ _ => rfl, fun _ h => .inl h, ?_, fun k hk => .inr ⟨k, (liveOld k hk).1, rfl⟩, fun _ _ _ => rfl, Nat.le_refl _, rfl, rfl, rfl⟩⟩
  · rintro b (h | rfl)
    · exact hM.S b h
    · exact (hM.live _ hlive).1
  · intro k hk
    obtain ⟨h1, h2⟩ := liveOld k hk
    refine ⟨(hM.live k h1).1, ?_⟩
    rintro (h | h)
    · exact (hM.live k h1).2 h
    · exact h2 (hM.inj k _ h1 hlive h)
  · intro k b hb
    rcases get hb with ⟨_, hb⟩ | ⟨_, rfl⟩
    · exact (hM.bk k b hb).goes g (hM.id_lt hb) fun _ _ => rfl
    · trivial
  · intro k i j esz e ho hcap
    exact (hM.own k i j esz e (ownOld ho) hcap).goes g rfl
  · rintro b (h | rfl)
    · exact .inl h
    · exact .inr (.inr ⟨_, hlive, rfl⟩)
theorem plainMs_spec : ∀ {es : List ME} {l : List (Value × Value)}, plainMs es = some l → ∀ (es' : List MapEntry), es'.length = es.length → (∀ (i : Nat) e, es[i]? = some e → ∃ e', es'[i]? = some e' ∧ e'.key = e.key ∧ DenR ρ w e.val e'.val) →
    es'.map (fun e => (e.key, e.val)) = l ∧ ∀ p, p ∈ l → plainV p.1 = true ∧ plainV p.2 = true
  | [], l, h, es', hl, hr => by
    simp [plainMs] at h
    subst h
    have : es' = [] := List.length_eq_zero_iff.1 (by simpa using hl)
    subst this
    simp
  | e :: r, l, h, [], hl, hr => by simp at hl
  | e :: r, l, h, e' :: r', hl, hr => by
    obtain ⟨k, v⟩ := e
    unfold plainMs at h
    split at h
    · rename_i heq; cases heq
    · rename_i k1 v1 r1 heq
      cases heq
      split at h
      · rename_i hp
        rw [Bool.and_eq_true] at hp
        obtain ⟨l1, hl1, rfl⟩ := Option.map_eq_some_iff.1 h
        obtain ⟨a1, a2⟩ := plainMs_spec hl1 r' (by simpa using hl) (fun i e he => by simpa using hr (i + 1) e (by simpa using he))
        obtain ⟨e0, h0, h1, h2⟩ := hr 0 _ rfl
        simp only [List.getElem?_cons_zero, Option.some.injEq] at h0
        subst h0
        have h3 : e'.val = v1 := (den_plain (ρ := ρ) (w := w) h2 (fun e => by subst e; simp [plainV] at hp)).1
        refine ⟨by rw [List.map_cons, a1, h1, h3], fun p hp' => ?_⟩
        rcases List.mem_cons.1 hp' with rfl | hp'
        · exact hp
        · exact a2 p hp'
      · cases h
    · cases h
theorem rng_sound (hM : MemRel ρ m w) (hE : EnvRel ρ w env a.tmps) {t kt vt : TypeId} {x : Operand} {x' : X} (ht : P.underlying t = some (.map kt vt)) (hx : lowX x = some x')
    (h : step P (.rng x') env m K) : Res P (do pure (Next.value (← Instr.range t (a.eval x)))) ρ m w K := by
  have hdx := lowX_den hE hx
  simp only [step] at h
  generalize a.eval x = xv at hdx ⊢
  split at h
  · rename_i id heq
    rw [heq] at hdx
    obtain ⟨bk, hbk, h⟩ := ok_iff.1 h
    rw [nth_eq] at hbk
    cases bk <;> simp only at h
    rename_i es
    obtain ⟨l, hl, h⟩ := ok_iff.1 h
    rw [lenK_eq, app2_eq, setN_eq] at h
    obtain ⟨hlt, rfl⟩ := hdx
    obtain ⟨es', clock, ⟨hb, hbn⟩, hsz, hrel⟩ := hM.bk id _ hbk
    obtain ⟨hM1, hX1⟩ := hM.still hbk
    have hspec := plainMs_spec (ρ := ρ) (w := w) hl es'.toList (by simpa using hsz) (fun i e he => by
      obtain ⟨e', h1, h2⟩ := hrel i e he
      exact ⟨e', by simpa using h1, h2⟩)
    let lo : Loc := ⟨w.heap.size, 0, 0, 0⟩
    have hn := hM1.n
    have hmb := hM1.S _ (.inr rfl)
    obtain ⟨h1, h2⟩ := hM1.push (bk := .it [] l) (l := lo) (Wider.alloc w (.mapIter (some (ρ.loc (.root id)).b) clock #[] clock)) (Nat.le_refl _) (by simp [lo]) (by
      have hloc : (Rho.push { ρ with S := fun b => ρ.S b ∨ b = (ρ.loc (.root id)).b } lo).loc (.root (m.set id .dead).length) = lo := by rw [← hn]; exact Rho.push_new _ lo
      refine ⟨(ρ.loc (.root id)).b, #[], clock, es', ?_, ?_, .inr rfl, ?_, hbn, ?_, by simp, fun p hp => hspec.2 p (by simpa using hp)⟩
      · rw [hloc]; exact (heap_alloc w _).1
      · rw [hloc]
      · exact ((heap_alloc w _).2 _ hmb).trans hb
      · rw [← hspec.1]
        congr 2
        exact Array.filter_eq_self.2 (by simp)) trivial
    refine ⟨_, .pointer (some ⟨w.heap.size, 0, none⟩), w.alloc (.mapIter (some (ρ.loc (.root id)).b) clock #[] clock), _, _, _, ?_, .inl rfl, h, h1, ?_, hX1.trans h2⟩
    · rw [Sem.run_bind, run_range_map w t kt vt (ρ.loc (.root id)).b es' clock ht hb]
      rfl
    · have hloc : (Rho.push { ρ with S := fun b => ρ.S b ∨ b = (ρ.loc (.root id)).b } lo).loc (.root m.length) = lo := by
        have := Rho.push_new { ρ with S := fun b => ρ.S b ∨ b = (ρ.loc (.root id)).b } lo
        rw [← hM.n]
        exact this
      refine ⟨by show m.length < ρ.n + 1; rw [hM.n]; omega, ?_⟩
      rw [hloc]
  · exact h.elim
theorem erase_born : ∀ {L : List MapEntry} {i : Nat} {e : MapEntry}, L[i]? = some e → (L.map (·.born)).Nodup → L.filter (fun x => !(x.born == e.born)) = L.eraseIdx i
  | [], i, e, h, _ => by simp at h
  | x :: r, 0, e, h, hn => by
    simp only [List.getElem?_cons_zero, Option.some.injEq] at h
    subst h
    rw [List.map_cons, List.nodup_cons] at hn
    rw [List.filter_cons, if_neg (by simp), List.eraseIdx_zero, List.tail_cons]
    refine List.filter_eq_self.2 fun y hy => ?_
    have : y.born ≠ x.born := fun he => hn.1 (he ▸ List.mem_map.2 ⟨y, hy, rfl⟩)
    simpa using this
  | x :: r, i + 1, e, h, hn => by
    simp only [List.getElem?_cons_succ] at h
    rw [List.map_cons, List.nodup_cons] at hn
    have : x.born ≠ e.born := fun he => hn.1 (he ▸ List.mem_map.2 ⟨e, List.mem_of_getElem? h, rfl⟩)
    rw [List.filter_cons, if_pos (by simpa using this), List.eraseIdx_cons_succ, erase_born h hn.2]
theorem left_push {es' : Array MapEntry} {clock : Nat} (hb : Borns es' clock) {seen : Array Nat} {i : Nat} {e : MapEntry} (h : (es'.filter fun e => !seen.contains e.born).toList[i]? = some e) :
    (es'.filter fun x => !(seen.push e.born).contains x.born).toList = (es'.filter fun e => !seen.contains e.born).toList.eraseIdx i := by
  have e0 : (es'.filter fun e => !seen.contains e.born).toList = es'.toList.filter fun e => !seen.contains e.born := by simp
  have e1 : (es'.filter fun x => !(seen.push e.born).contains x.born).toList = es'.toList.filter fun x => !(seen.push e.born).contains x.born := by simp
  rw [e0] at h ⊢
  rw [e1, ← erase_born h ((List.filter_sublist.map _).nodup hb.2), List.filter_filter]
  congr 1
  funext x
  by_cases h1 : x.born = e.born <;> simp [h1, Array.contains_push, Bool.and_comm]
theorem nxt_sound (hM : MemRel ρ m w) (hE : EnvRel ρ w env a.tmps) {ty : TypeId} {x : Operand} {x' : X} (hx : lowX x = some x')
    (h : step P (.nxt x') env m K) : Res P (do pure (Next.value (← Instr.next (a.eval x) false ty))) ρ m w K := by
  have hdx := lowX_den hE hx
  simp only [step] at h
  generalize a.eval x = xv at hdx ⊢
  split at h
  · rename_i id heq
    rw [heq] at hdx
    obtain ⟨bk, hbk, h⟩ := ok_iff.1 h
    rw [nth_eq] at hbk
    cases bk <;> simp only at h
    rename_i cur left
    obtain ⟨hover, hstep⟩ := h
    obtain ⟨hlt, rfl⟩ := hdx
    obtain ⟨mb, seen, clock, es', h1, h2, h3, h4, h5, h6, h7, h8⟩ := hM.bk id _ hbk
    have hlive : Live ρ m (.root id) := ⟨_, hbk, by simp, by rintro ⟨_, _, e⟩; cases e⟩
    have hp : (Value.pointer (some ⟨(ρ.loc (.root id)).b, (ρ.loc (.root id)).base + 0, none⟩)) = .pointer (some ⟨(ρ.loc (.root id)).b, 0, none⟩) := by rw [h2]
    rw [hp]
    rcases run_next_at (P := P) w ty (ρ.loc (.root id)).b mb clock clock seen es' clock h1 h4 h5.1 (Nat.le_refl _) with ⟨h0, hrun⟩ | ⟨e, he, w1, hal, hrun⟩
    · refine Res.pure hM (v := .tuple #[.bool false]) (by rw [Sem.run_bind, hrun]; rfl) (hover ?_) ⟨[.bool false], rfl, rfl, fun i r hi => ?_⟩
      · rw [← h6]
        have : (es'.filter fun e => !seen.contains e.born).toList = [] := List.length_eq_zero_iff.1 (by simpa [leftOf] using h0)
        rw [this]; rfl
      · match i, hi with
        | 0, hi => cases hi; exact ⟨_, rfl, .val _ rfl⟩
    · obtain ⟨i, hi⟩ := List.getElem?_of_mem he
      have hi : (es'.filter fun e => !seen.contains e.born).toList[i]? = some e := hi
      have hli : left[i]? = some (e.key, e.val) := by rw [← h6, List.getElem?_map, hi]; rfl
      have hpl := h8 _ (.inl (List.mem_of_getElem? hli))
      have hK := hstep i e.key e.val _ hli rfl
      rw [setN_eq] at hK
      have hbe : (ρ.loc (.root id)).b ≠ mb := fun hh => (hM.live _ hlive).2 (hh ▸ h3)
      have hh : w1.heap = w.heap ∧ w1.os = w.os ∧ w1.tape = w.tape ∧ w1.output = w.output := by rcases hal with rfl | rfl <;> exact ⟨rfl, rfl, rfl, rfl⟩
      have hblt : (ρ.loc (.root id)).b < w.heap.size := (hM.live _ hlive).1
      have hturn : Turned w (Go.ChangeMaps.setBlock w1 (ρ.loc (.root id)).b (.mapIter (some mb) clock (seen.push e.born) clock)) (ρ.loc (.root id)).b :=
        ⟨fun b hne => by show (w1.heap.setIfInBounds _ _)[b]? = _; rw [hh.1, Array.getElem?_setIfInBounds_ne (Ne.symm hne)], by show (w1.heap.setIfInBounds _ _).size = _; rw [Array.size_setIfInBounds, hh.1], hh.2.1, hh.2.2.1, hh.2.2.2⟩
      obtain ⟨hM', hX⟩ := hM.upd (bk' := .it [(e.key, e.val)] (left.eraseIdx i)) hbk hlive hturn (fun g => ⟨mb, seen.push e.born, clock, es', by
          show (w1.heap.setIfInBounds _ _)[_]? = _
          rw [hh.1, Array.getElem?_setIfInBounds_self_of_lt hblt], h2, h3, (hturn.heap mb (Ne.symm hbe)).trans h4, h5, by
          rw [left_push h5 hi, ← h6]; exact Go.ChangeMaps.map_eraseIdx _ _ _, fun p hp => ⟨e, seen, by
            have : e ∈ (es'.filter fun e => !seen.contains e.born).toList := List.mem_of_getElem? hi
            simp at this ⊢
            exact this.1, rfl, (List.mem_singleton.1 hp).symm⟩, fun p hp => by
          rcases hp with hp | hp
          · exact h8 p (.inl (List.mem_of_mem_eraseIdx hp))
          · simp at hp; subst hp; exact hpl⟩) (by
          rintro i' j' esz e ⟨es3, rows, cs2, hb2, _, _⟩
          rw [List.getElem?_set_self (by rw [← hM.n]; exact hlt)] at hb2
          cases hb2)
      refine ⟨_, .tuple #[.bool true, e.key, e.val], _, _, _, ρ, by rw [Sem.run_bind, hrun]; rfl, .inl rfl, hK, hM', ⟨[.bool true, e.key, e.val], rfl, rfl, fun i r hi => ?_⟩, hX⟩
      match i, hi with
      | 0, hi => cases hi; exact ⟨_, rfl, .val _ rfl⟩
      | 1, hi => cases hi; exact ⟨_, rfl, .val _ hpl.1⟩
      | 2, hi => cases hi; exact ⟨_, rfl, .val _ hpl.2⟩
  · exact h.elim
theorem ent_sound (hM : MemRel ρ m w) (hE : EnvRel ρ w env a.tmps) {x : Operand} {x' : X} (hx : lowX x = some x')
    (h : step P (.ent x') env m K) : Res P (do pure (Next.value (← Instr.entry (a.eval x)))) ρ m w K := by
  have hdx := lowX_den hE hx
  simp only [step] at h
  generalize a.eval x = xv at hdx ⊢
  split at h
  · rename_i id heq
    rw [heq] at hdx
    obtain ⟨bk, hbk, h⟩ := ok_iff.1 h
    rw [nth_eq] at hbk
    cases bk <;> try simp only at h
    rename_i cur left
    split at h
    · rename_i p tl left2 he2
      injection he2 with ha hb
      subst ha hb
      obtain ⟨hlt, rfl⟩ := hdx
      obtain ⟨mb, seen, clock, es', h1, h2, h3, h4, h5, h6, h7, h8⟩ := hM.bk id _ hbk
      obtain ⟨e, seen0, he, rfl, hp⟩ := h7 p (by simp)
      have hpl := h8 p (.inr (by simp))
      subst hp
      have hp : (Value.pointer (some ⟨(ρ.loc (.root id)).b, (ρ.loc (.root id)).base + 0, none⟩)) = .pointer (some ⟨(ρ.loc (.root id)).b, 0, none⟩) := by rw [h2]
      rw [hp]
      have hrun := run_entry_at (P := P) w (ρ.loc (.root id)).b mb clock seen0 es' clock e h1 h4 he h5.2
      refine Res.pure hM (v := .tuple #[e.key, e.val]) (by rw [Sem.run_bind, hrun]; rfl) h ⟨[e.key, e.val], rfl, rfl, fun i r hi => ?_⟩
      match i, hi with
      | 0, hi => cases hi; exact ⟨_, rfl, .val _ hpl.1⟩
      | 1, hi => cases hi; exact ⟨_, rfl, .val _ hpl.2⟩
    · exact h.elim
  · exact h.elim
end
end Go.AM
