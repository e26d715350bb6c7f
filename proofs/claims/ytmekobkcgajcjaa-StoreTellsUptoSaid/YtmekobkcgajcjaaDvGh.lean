import Derived.Test.YtmekobkcgajcjaaAmZ2
import Derived.Test.YtmekobkcgajcjaaDvGn
import Derived.Test.YtmekobkcgajcjaaDvGg
import Derived.Test.YtmekobkcgajcjaaAmY
import Derived.Test.YtmekobkcgajcjaaDvGb
set_option linter.unusedVariables false
set_option linter.unusedSimpArgs false
namespace Go.Proofs.Ytmekobkcgajcjaa
open Go.AM Go.ChangeShapes Go.WideShapes Go.ChangeAt Go.RowKit
/-! slices.Insert of one entry, as memory -/
theorem setCells_cur {mk : Prop} {b : Nat} : ∀ (vs : List Value) (o : Nat) (w : World) (cur : Array Value), Cur mk w b cur → o + vs.length ≤ cur.size →
    ∃ cur', Cur mk (w.setCells b o vs) b cur' ∧ Turned w (w.setCells b o vs) b ∧ cur'.size = cur.size ∧ ∀ k, cur'[k]? = if o ≤ k ∧ k < o + vs.length then vs[k - o]? else cur[k]?
  | [], o, w, cur, hc, _ => ⟨cur, hc, ⟨fun _ _ => rfl, rfl, rfl, rfl, rfl⟩, rfl, fun k => by rw [if_neg (by simp)]⟩
  | v :: r, o, w, cur, hc, hle => by
    have hc1 : Cur mk (w.setCell ⟨b, o, none⟩ v) b (cur.setIfInBounds o v) := by
      obtain ⟨ty, fr, hb, hf⟩ := hc
      refine ⟨ty, fr, ?_, by simpa using hf⟩
      simp [World.setCell, Array.getElem?_modify, hb]
    have ht1 : Turned w (w.setCell ⟨b, o, none⟩ v) b := ⟨fun b hb => by simp [World.setCell, Array.getElem?_modify, Ne.symm hb], by simp, rfl, rfl, rfl⟩
    simp only [List.length_cons] at hle
    obtain ⟨cur', h1, ht, h2, h3⟩ := setCells_cur (mk := mk) r (o + 1) _ _ hc1 (by simp; omega)
    refine ⟨cur', h1, ⟨fun b hb => (ht.heap b hb).trans (ht1.heap b hb), ht.size.trans ht1.size, ht.os, ht.tape, ht.output⟩, by rw [h2]; simp, fun k => ?_⟩
    rw [h3 k]
    simp only [List.length_cons]
    by_cases hk : k = o
    · subst hk
      rw [if_neg (by omega), if_pos (by omega), Array.getElem?_setIfInBounds_self_of_lt (by omega)]
      simp
    · by_cases hk2 : o + 1 ≤ k ∧ k < o + 1 + r.length
      · rw [if_pos hk2, if_pos (by omega)]
        obtain ⟨j, rfl⟩ : ∃ j, k = o + 1 + j := ⟨k - (o + 1), by omega⟩
        rw [show o + 1 + j - (o + 1) = j by omega, show o + 1 + j - o = j + 1 by omega, List.getElem?_cons_succ]
      · rw [if_neg hk2, if_neg (by omega), Array.getElem?_setIfInBounds_ne (by omega)]
theorem dR_get {S : List (List Dt)} {i : Nat} {cs : List CC} (h : (dRows S)[i]? = some cs) : ∃ ds, S[i]? = some ds ∧ cs = ds.map .dat := by
  simp only [dRows, List.getElem?_map] at h
  obtain ⟨ds, h1, h2⟩ := Option.map_eq_some_iff.1 h
  exact ⟨ds, h1, h2.symm⟩
theorem ins_get {S : List (List Dt)} {e : List Dt} {i : Nat} (hi : i < S.length) (k : Nat) (ds : List Dt) (h : (S.take i ++ e :: S.drop i)[k]? = some ds) : (k < i ∧ S[k]? = some ds) ∨ (k = i ∧ ds = e) ∨ (i < k ∧ S[k - 1]? = some ds) := by
  have hl : (S.take i).length = i := by rw [List.length_take]; omega
  rcases Nat.lt_trichotomy k i with h1 | h1 | h1
  · rw [List.getElem?_append_left (by omega), List.getElem?_take, if_pos h1] at h
    exact .inl ⟨h1, h⟩
  · subst h1
    rw [List.getElem?_append_right (by omega), hl, Nat.sub_self] at h
    exact .inr (.inl ⟨rfl, by simpa using h.symm⟩)
  · rw [List.getElem?_append_right (by omega), hl, show k - i = (k - 1 - i) + 1 by omega, List.getElem?_cons_succ, List.getElem?_drop, show i + (k - 1 - i) = k - 1 by omega] at h
    exact .inr (.inr ⟨h1, h⟩)
set_option maxHeartbeats 4000000 in
set_option maxRecDepth 100000 in
theorem insm_base (S : List (List Dt)) (e : List Dt) (i : Nat) (hi : i < S.length) (hl : S.length ≤ 4194304) : ACall Try.prog 39 [.rv (.one (.row 0 2 0 none)), vInt .i64 (i : Nat), .rv (.one (.row 1 2 0 none))] [.row 2 (dRows S), .row 2 (dRows [e])]
    (fun r m => r = .rv (.one (.row 2 2 0 none)) ∧ m = [.dead, .dead, .row 2 (dRows (S.take i ++ e :: S.drop i))]) := by
  refine ⟨⟨Try.f39, Try.func39, rfl, by decide⟩, fun ρ w vs hM hvl hd => ?_⟩
  obtain ⟨v0, h0, d0⟩ := hd 0 _ rfl
  obtain ⟨v1, h1, d1⟩ := hd 1 _ rfl
  obtain ⟨v2, h2, d2⟩ := hd 2 _ rfl
  have hvs : vs = [v0, v1, v2] := by
    match vs, hvl with
    | [a, b, c], _ => simp at h0 h1 h2; rw [h0, h1, h2]
  have hv1 : v1 = .int .i64 (i : Nat) := (den_plain d1).1
  obtain ⟨_, _, _, hlc0, hcm0, a0, hv0, ha0⟩ := (show DenC ρ w none (.row 0 2 0 none) v0 from d0)
  obtain ⟨_, _, _, hlc1, hcm1, a1, hv2, ha1⟩ := (show DenC ρ w none (.row 1 2 0 none) v2 from d2)
  obtain ⟨hln0, _, _, hsz0, hcu0⟩ := hM.bk 0 _ rfl
  obtain ⟨hln1, _, _, hsz1, hcu1⟩ := hM.bk 1 _ rfl
  have hlen0 : (ρ.loc (.root 0)).len = S.length := by rw [← hln0]; simp [dRows]
  have hlen1 : (ρ.loc (.root 1)).len = 1 := by rw [← hln1]; simp [dRows]
  have hcap0 : 0 < (ρ.loc (.root 0)).cap := by omega
  have hcap1 : 0 < (ρ.loc (.root 1)).cap := by omega
  obtain ⟨cur0, hcur0, hcs0, hcells0⟩ := hcu0 hcap0
  obtain ⟨cur1, hcur1, hcs1, hcells1⟩ := hcu1 hcap1
  have ha0 := ha0 hcap0
  have ha1 := ha1 hcap1
  have live0 : Live ρ [.row 2 (dRows S), .row 2 (dRows [e])] (.root 0) := ⟨_, rfl, by simp, fun _ => hcap0⟩
  have live1 : Live ρ [.row 2 (dRows S), .row 2 (dRows [e])] (.root 1) := ⟨_, rfl, by simp, fun _ => hcap1⟩
  have hvb : (ρ.loc (.root 1)).b ≠ (ρ.loc (.root 0)).b := fun he => by
    have := hM.inj _ _ live1 live0 he
    cases this
  simp only [Option.getD_none, Nat.sub_zero, Nat.zero_mul, Nat.add_zero] at hv0 hv2 ha0 ha1
  have hn3 : ρ.n = 2 := hM.n
  have goesAll := hM
  generalize hL0 : ρ.loc (.root 0) = L0 at *
  generalize hL1 : ρ.loc (.root 1) = L1 at *
  obtain ⟨b, base, len, cap⟩ := L0
  obtain ⟨vb, vbase, vlen, vcap⟩ := L1
  simp only at *
  subst hlen0 hlen1
  have hcurlt := hcur0.lt
  have hS2 : ∀ (k : Nat) (ds : List Dt), S[k]? = some ds → ds.length = 2 := fun k ds hk => by
    have := hsz0 (ds.map .dat) (List.mem_of_getElem? (i := k) (by simp [dRows, hk]))
    simpa using this
  have he2 : e.length = 2 := by
    have := hsz1 (e.map .dat) (by simp [dRows])
    simpa using this
  obtain ⟨cs, hcsd⟩ : ∃ cs, cs = (cur0.toList.drop base).take (S.length * 2) := ⟨_, rfl⟩
  have hcl : cs.length = S.length * 2 := by
    have := Array.length_toList (xs := cur0)
    rw [hcsd, List.length_take, List.length_drop]; omega
  have hcg : ∀ j, j < S.length * 2 → cs[j]? = cur0[base + j]? := fun j hj => by
    rw [hcsd, List.getElem?_take, if_pos hj, List.getElem?_drop, Array.getElem?_toList]
  obtain ⟨vv, hvvd⟩ : ∃ vv, vv = (cur1.toList.drop vbase).take 2 := ⟨_, rfl⟩
  have hvvl : vv.length = 2 := by
    have := Array.length_toList (xs := cur1)
    rw [hvvd, List.length_take, List.length_drop]; omega
  have hvg : ∀ j, j < 2 → vv[j]? = cur1[vbase + j]? := fun j hj => by
    rw [hvvd, List.getElem?_take, if_pos hj, List.getElem?_drop, Array.getElem?_toList]
  have hden0 : ∀ (k : Nat) (ds : List Dt) (j : Nat) (d : Dt), S[k]? = some ds → ds[j]? = some d → ∃ u, cs[k * 2 + j]? = some u ∧ DenD ρ.S w d u := fun k ds j d hk hj => by
    have hkl := (List.getElem?_eq_some_iff.1 hk).1
    have hjl := (List.getElem?_eq_some_iff.1 hj).1
    rw [hS2 k ds hk] at hjl
    obtain ⟨u, hu, hdu⟩ := hcells0 k (ds.map .dat) j (.dat d) (by simp [dRows, hk]) (by simp [hj])
    exact ⟨u, by rw [hcg _ (by omega), ← Nat.add_assoc]; exact hu, hdu⟩
  have hden1 : ∀ (j : Nat) (d : Dt), e[j]? = some d → ∃ u, vv[j]? = some u ∧ DenD ρ.S w d u := fun j d hj => by
    have hjl := (List.getElem?_eq_some_iff.1 hj).1
    rw [he2] at hjl
    obtain ⟨u, hu, hdu⟩ := hcells1 0 (e.map .dat) j (.dat d) (by simp [dRows]) (by simp [hj])
    exact ⟨u, by rw [hvg _ hjl]; simpa using hu, hdu⟩
  have hone0 : ∀ v ∈ cs, v.oneCell' = true := fun v hv => by
    obtain ⟨j, hj⟩ := List.getElem?_of_mem hv
    have hjl := (List.getElem?_eq_some_iff.1 hj).1
    have hk : j / 2 < S.length := by omega
    have hd2 := hS2 (j / 2) S[j / 2] (List.getElem?_eq_getElem hk)
    obtain ⟨u, hu, hdu⟩ := hden0 (j / 2) S[j / 2] (j % 2) (S[j / 2][j % 2]'(by omega)) (List.getElem?_eq_getElem hk) (List.getElem?_eq_getElem _)
    rw [show j / 2 * 2 + j % 2 = j by omega, hj] at hu
    cases hu
    exact hdu.one
  have hone1 : ∀ v ∈ vv, v.oneCell' = true := fun v hv => by
    obtain ⟨j, hj⟩ := List.getElem?_of_mem hv
    have hjl := (List.getElem?_eq_some_iff.1 hj).1
    obtain ⟨u, hu, hdu⟩ := hden1 j (e[j]'(by omega)) (List.getElem?_eq_getElem _)
    rw [hj] at hu
    cases hu
    exact hdu.one
  have hcell0 : ∀ (j : Nat) (v : Value), cs[j]? = some v → w.cell? ⟨b, base + j, none⟩ = some v := fun j v hj => by
    rw [hcur0.cell, ← hcg j (by rw [← hcl]; exact (List.getElem?_eq_some_iff.1 hj).1)]; exact hj
  have hcell1 : ∀ (j : Nat) (v : Value), vv[j]? = some v → w.cell? ⟨vb, vbase + j, none⟩ = some v := fun j v hj => by
    rw [hcur1.cell, ← hvg j (by rw [← hvvl]; exact (List.getElem?_eq_some_iff.1 hj).1)]; exact hj
  have hargs : vs.toArray = #[.slice (some ⟨b, base, none⟩) S.length cap, .int .i64 (i : Nat), .slice (some ⟨vb, vbase, none⟩) 1 vcap] := by
    rw [hvs, hv0, hv1, hv2, ha0, ha1]
  rw [hargs]
  -- the new row's cells
  have cells_ok : ∀ (w' : World) (l : AM.Loc) (cur' : Array Value), Goes ρ w (ρ.move l fun _ _ => .sub 0 0 0) w' → (∀ k, k < i * 2 → cur'[l.base + k]? = cs[k]?) → (∀ k, k < 2 → cur'[l.base + (i * 2 + k)]? = vv[k]?) → (∀ k, k < (S.length - i) * 2 → cur'[l.base + ((i + 1) * 2 + k)]? = cs[i * 2 + k]?) →
      ∀ (k : Nat) ccs (j : Nat) c, (dRows (S.take i ++ e :: S.drop i))[k]? = some ccs → ccs[j]? = some c → ∃ u, cur'[l.base + k * 2 + j]? = some u ∧ DenC (ρ.move l fun _ _ => .sub 0 0 0) w' (some (ρ.n, k, j)) c u := by
    intro w' l cur' g q1 q2 q3 k ccs j c hk hj
    obtain ⟨ds, hds, rfl⟩ := dR_get hk
    rw [List.getElem?_map] at hj
    obtain ⟨d, hd1, rfl⟩ := Option.map_eq_some_iff.1 hj
    have hjl := (List.getElem?_eq_some_iff.1 hd1).1
    rcases ins_get hi k ds hds with ⟨hki, hS⟩ | ⟨rfl, rfl⟩ | ⟨hki, hS⟩
    · rw [hS2 k ds hS] at hjl
      obtain ⟨u, hu, hdu⟩ := hden0 k ds j d hS hd1
      exact ⟨u, by rw [Nat.add_assoc, q1 _ (by omega)]; exact hu, hdu.mono g.S g.heap⟩
    · rw [he2] at hjl
      obtain ⟨u, hu, hdu⟩ := hden1 j d hd1
      exact ⟨u, by rw [Nat.add_assoc, q2 _ hjl]; exact hu, hdu.mono g.S g.heap⟩
    · rw [hS2 _ ds hS] at hjl
      obtain ⟨u, hu, hdu⟩ := hden0 (k - 1) ds j d hS hd1
      have hkl := (List.getElem?_eq_some_iff.1 hS).1
      refine ⟨u, ?_, hdu.mono g.S g.heap⟩
      rw [Nat.add_assoc, show k * 2 + j = (i + 1) * 2 + ((k - 1 - i) * 2 + j) by omega, q3 _ (by omega), show i * 2 + ((k - 1 - i) * 2 + j) = (k - 1) * 2 + j by omega]
      exact hu
  have hEl : (dRows (S.take i ++ e :: S.drop i)).length = S.length + 1 := by simp [dRows]; omega
  have hE2 : ∀ cs, cs ∈ dRows (S.take i ++ e :: S.drop i) → cs.length = 2 := fun ccs hm => by
    obtain ⟨k, hk⟩ := List.getElem?_of_mem hm
    obtain ⟨ds, hds, rfl⟩ := dR_get hk
    rw [List.length_map]
    rcases ins_get hi k ds hds with ⟨_, hS⟩ | ⟨_, rfl⟩ | ⟨_, hS⟩
    · exact hS2 _ _ hS
    · exact he2
    · exact hS2 _ _ hS
  have noOwn : ∀ (k : Nat) ccs (j : Nat) s el, (dRows (S.take i ++ e :: S.drop i))[k]? = some ccs → ccs[j]? = some (.own s el) → False := fun k ccs j s el hk hj => by
    obtain ⟨ds, _, rfl⟩ := dR_get hk
    rw [List.getElem?_map] at hj
    obtain ⟨d, _, h⟩ := Option.map_eq_some_iff.1 hj
    cases h
  have hS1 : ([.dead, .dead] : Mem).length = ([.row 2 (dRows S), .row 2 (dRows [e])] : Mem).length := rfl
  have hdead : ∀ (id : Nat) bk, ([.dead, .dead] : Mem)[id]? = some bk → bk = .dead ∨ (([.row 2 (dRows S), .row 2 (dRows [e])] : Mem)[id]? = some bk ∧ ¬ (id = 0 ∨ id = 1)) := fun id bk h => by
    match id, h with
    | 0, h => cases h; exact .inl rfl
    | 1, h => cases h; exact .inl rfl
    | id + 2, h => simp at h
  have drop_get : ∀ k, (cs.drop (i * 2))[k]? = cs[i * 2 + k]? := fun k => by rw [List.getElem?_drop]
  have hdl : (cs.drop (i * 2)).length = (S.length - i) * 2 := by rw [List.length_drop, hcl, Nat.sub_mul]
  by_cases hroom : S.length + 1 ≤ cap
  · -- in place
    obtain ⟨ty0, fr0, hh0, hfr0, hno0, hmk0⟩ := id hcur0
    obtain ⟨ty1, fr1, hh1, hfr1, hno1, hmk1⟩ := id hcur1
    have hmk1 : fr1.2 ≤ cur1.size := by
      rcases hmk1 with h | h
      · cases h
      · exact h
    have hsp : ∀ j, j < (S.length + 1) * 2 → (w.cell? ⟨b, base + j, none⟩).isSome = true := fun j hj => by
      rw [hcur0.cell, Array.getElem?_eq_getElem (by omega)]; rfl
    have hcon := insert_shift b base S.length cap i vb vbase vcap cs vv w hi hroom (by unfold maxLen at hcm0; omega) hvb hcl hvvl hcell0 hsp (fun j hj => hcur0.frozen (by omega)) hcell1 hone0 hone1 ty1 ty0 cur1.size cur0.size
      (by simp [World.shape?, hh1]) (by simp [World.shape?, hh0]) (by omega) (hcur1.frozen (by omega)) (by
        simp only [World.frozen?, hh1]
        simp
        omega)
    refine hcon.mono ?_
    rintro e' w' ⟨rfl, rfl⟩
    obtain ⟨c1, hc1, ht1, hs1, hk1⟩ := setCells_cur (cs.drop (i * 2)) (base + (i + 1) * 2) w.drew cur0 (hcur0.same rfl) (by rw [hdl]; omega)
    obtain ⟨c2, hc2, ht2, hs2, hk2⟩ := setCells_cur vv (base + i * 2) _ c1 hc1 (by rw [hvvl]; omega)
    have hT : Turned w ((w.drew.setCells b (base + (i + 1) * 2) (cs.drop (i * 2))).setCells b (base + i * 2) vv) b :=
      ⟨fun x hx => ((ht2.heap x hx).trans (ht1.heap x hx)).trans rfl, (ht2.size.trans ht1.size).trans rfl, (ht2.os.trans ht1.os).trans rfl, (ht2.tape.trans ht1.tape).trans rfl, (ht2.output.trans ht1.output).trans rfl⟩
    obtain ⟨hM', hX⟩ := hM.move (w' := (w.drew.setCells b (base + (i + 1) * 2) (cs.drop (i * 2))).setCells b (base + i * 2) vv) (m1 := [.dead, .dead]) (D := fun id => id = 0 ∨ id = 1) (esz := 2) (E := dRows (S.take i ++ e :: S.drop i)) (l := ⟨b, base, S.length + 1, cap⟩) (src := fun _ _ => .sub 0 0 0)
      hS1 hdead (by rw [hT.size]; exact Nat.le_refl _) hT.os hT.tape hT.output (fun x hx hne => hT.heap x (fun he => hne 0 (.inl rfl) live0 (by rw [hL0]; exact he.symm)))
      (fun _ => ⟨by rw [hT.size]; exact hcurlt, .inr ⟨0, .inl rfl, live0, by rw [hL0]⟩⟩) hEl hroom hcm0 hE2
      (fun g _ => ⟨c2, hc2, by rw [hs2, hs1]; exact hcs0, cells_ok _ ⟨b, base, S.length + 1, cap⟩ c2 g (fun k hk => by
        show c2[base + k]? = _
        rw [hk2, if_neg (by rw [hvvl]; omega), hk1, if_neg (by omega), hcg _ (by omega)]) (fun k hk => by
        show c2[base + (i * 2 + k)]? = _
        rw [hk2, if_pos (by rw [hvvl]; omega), show base + (i * 2 + k) - (base + i * 2) = k by omega]) (fun k hk => by
        show c2[base + ((i + 1) * 2 + k)]? = _
        rw [hk2, if_neg (by rw [hvvl]; omega), hk1, if_pos (by rw [hdl]; omega), show base + ((i + 1) * 2 + k) - (base + (i + 1) * 2) = k by omega, drop_get])⟩)
      (fun k ccs j s el hk hj => (noOwn k ccs j s el hk hj).elim) (fun _ _ _ _ _ ⟨ccs, s, el, hk, hj⟩ _ => (noOwn _ ccs _ s el hk hj).elim)
    refine ⟨_, _, _, _, rfl, ⟨rfl, rfl⟩, hM', ?_, hX⟩
    refine ⟨by simp [Rho.move, hn3], ?_⟩
    have hnew : (ρ.move ⟨b, base, S.length + 1, cap⟩ fun _ _ => .sub 0 0 0).loc (.root 2) = ⟨b, base, S.length + 1, cap⟩ := by simp [Rho.move, hn3]
    rw [hnew]
    exact ⟨Nat.zero_le _, Nat.le_refl _, hroom, hcm0, _, rfl, fun _ => by simp⟩
  · -- a new row
    have hcon := insert_grow b base S.length cap i vb vbase vcap cs vv w hi (by omega) (by omega) (by omega) hcl hvvl hcell0 hcell1 hone0 hone1
    refine hcon.mono ?_
    rintro e' w' ⟨rfl, rfl⟩
    have hGn : S.length + 1 ≤ grownCap w (S.length + 1) cap 51 := grownCap_ge w _ _ _
    have hGm : grownCap w (S.length + 1) cap 51 ≤ maxLen := grownCap_le_maxLen w (S.length + 1) cap 51 (by unfold maxLen; omega)
    generalize grownCap w (S.length + 1) cap 51 = G at *
    obtain ⟨ROW, hROW⟩ : ∃ ROW : Array Value, ROW = (cs.take (i * 2)).toArray ++ Builtin.zeroCells zEnt.cells (S.length + 1 - i) ++ Builtin.zeroCells zEnt.cells (G - (S.length + 1)) := ⟨_, rfl⟩
    rw [← hROW]
    have hRs : ROW.size = G * 2 := by
      rw [hROW]
      simp [Builtin.zeroCells, Value.cells, zEnt, List.length_take, hcl]
      omega
    have hRg : ∀ k, k < i * 2 → ROW[k]? = cs[k]? := fun k hk => by
      rw [hROW, Array.append_assoc, Array.getElem?_append_left (by simp [hcl]; omega)]
      simp [List.getElem?_take, hk]
    have hA : Wider w (w.alloc (.cells ROW 51)).drew := (Wider.alloc w _).trans (Wider.drew _)
    obtain ⟨c1, hc1, ht1, hs1, hk1⟩ := setCells_cur (mk := (2 : Nat) = 1) vv (i * 2) (w.alloc (.cells ROW 51)).drew ROW ((Cur.new w ROW 51).same rfl) (by rw [hvvl]; omega)
    obtain ⟨c2, hc2, ht2, hs2, hk2⟩ := setCells_cur (mk := (2 : Nat) = 1) (cs.drop (i * 2)) ((i + 1) * 2) ((w.alloc (.cells ROW 51)).drew.setCells w.heap.size (i * 2) vv).drew c1 (hc1.same rfl) (by rw [hdl]; omega)
    have hsz : w.heap.size < ((((w.alloc (.cells ROW 51)).drew.setCells w.heap.size (i * 2) vv).drew).setCells w.heap.size ((i + 1) * 2) (cs.drop (i * 2))).heap.size := by
      rw [ht2.size]
      show w.heap.size < ((w.alloc (.cells ROW 51)).drew.setCells w.heap.size (i * 2) vv).heap.size
      rw [ht1.size]
      show w.heap.size < (w.alloc (.cells ROW 51)).heap.size
      simp
    obtain ⟨hM', hX⟩ := hM.move (w' := (((w.alloc (.cells ROW 51)).drew.setCells w.heap.size (i * 2) vv).drew).setCells w.heap.size ((i + 1) * 2) (cs.drop (i * 2))) (m1 := [.dead, .dead]) (D := fun id => id = 0 ∨ id = 1) (esz := 2) (E := dRows (S.take i ++ e :: S.drop i)) (l := ⟨w.heap.size, 0, S.length + 1, G⟩) (src := fun _ _ => .sub 0 0 0)
      hS1 hdead (Nat.le_of_lt hsz) ((ht2.os.trans ht1.os).trans rfl) ((ht2.tape.trans ht1.tape).trans rfl) ((ht2.output.trans ht1.output).trans rfl)
      (fun x hx _ => ((ht2.heap x (by omega)).trans (ht1.heap x (by omega))).trans (hA.heap x hx))
      (fun _ => ⟨hsz, .inl (Nat.le_refl _)⟩) hEl hGn hGm hE2
      (fun g _ => ⟨c2, hc2, by rw [hs2, hs1, hRs]; show 0 + G * 2 ≤ G * 2; omega, cells_ok _ ⟨w.heap.size, 0, S.length + 1, G⟩ c2 g (fun k hk => by
        show c2[0 + k]? = _
        rw [Nat.zero_add, hk2, if_neg (by omega), hk1, if_neg (by omega), hRg _ hk]) (fun k hk => by
        show c2[0 + (i * 2 + k)]? = _
        rw [Nat.zero_add, hk2, if_neg (by omega), hk1, if_pos (by rw [hvvl]; omega), show i * 2 + k - i * 2 = k by omega]) (fun k hk => by
        show c2[0 + ((i + 1) * 2 + k)]? = _
        rw [Nat.zero_add, hk2, if_pos (by rw [hdl]; omega), show (i + 1) * 2 + k - (i + 1) * 2 = k by omega, drop_get])⟩)
      (fun k ccs j s el hk hj => (noOwn k ccs j s el hk hj).elim) (fun _ _ _ _ _ ⟨ccs, s, el, hk, hj⟩ _ => (noOwn _ ccs _ s el hk hj).elim)
    refine ⟨_, _, _, _, rfl, ⟨rfl, rfl⟩, hM', ?_, hX⟩
    refine ⟨by simp [Rho.move, hn3], ?_⟩
    have hnew : (ρ.move ⟨w.heap.size, 0, S.length + 1, G⟩ fun _ _ => .sub 0 0 0).loc (.root 2) = ⟨w.heap.size, 0, S.length + 1, G⟩ := by simp [Rho.move, hn3]
    rw [hnew]
    exact ⟨Nat.zero_le _, Nat.le_refl _, hGn, hGm, _, rfl, fun _ => by simp⟩

/-! store.Enter: exactly -/
def Obj.ob (o : Obj) : Ob := ⟨o.kind, o.data, o.entries, o.target, o.peer, .sl 4 (o.queue.map Msg.enc), o.proc, o.links, o.up⟩
theorem obs_eq (l : List Obj) : objsD l = obsD (l.map Obj.ob) := by
  show Dt.sl 9 (l.map Obj.enc) = Dt.sl 9 ((l.map Obj.ob).map Ob.enc)
  rw [List.map_map]
  rfl
def entSO (l : List Obj) (n p : Nat) (name : ByteArray) : List Obj := match l[n]? with
  | none => l
  | some o => match (l.set n { o with entries := (insS (name, (p : Int)) (o.entries.map unE)).map entD })[p]? with
    | none => l
    | some q => (l.set n { o with entries := (insS (name, (p : Int)) (o.entries.map unE)).map entD }).set p { q with links := IntKind.i64.wrap (q.links + 1), up := if q.kind = 2 then (n : Int) else q.up }
def entKO (b : Bool) (o : Obj) (y : List Obj) (name : ByteArray) : List Obj × Int :=
  if o.kind ≠ 2 then ([], 11) else if o.links = 0 then ([], 6) else if b = false then ([], 7) else if findS (o.entries.map unE) name ≥ 0 then ([], 7) else if o.entries.length ≥ 8 then ([], 15) else (y, 0)
def isSO (l : List Obj) (k kind : Int) : Bool := isSB (l.map Obj.ob) k kind
def sEnterS (b : Bool) (l : List Obj) (dir : Int) (name : ByteArray) (obj : Int) : List Obj × Int :=
  if isSO l dir 0 = true then (if isSO l obj 0 = true then (match l[dir.toNat]? with
    | none => ([], 6)
    | some o => entKO b o (entSO l dir.toNat obj.toNat name) name) else ([], 6)) else ([], 6)
theorem entSO_eq (l : List Obj) (n p : Nat) (name : ByteArray) : entS (l.map Obj.ob) n p name = (entSO l n p name).map Obj.ob := by
  unfold entS entSO
  rw [List.getElem?_map]
  cases hn : l[n]? with
  | none => rfl
  | some o =>
    simp only [Option.map_some]
    have e : ({ o.ob with entries := (insS (name, (p : Int)) (o.ob.entries.map unE)).map entD } : Ob) = Obj.ob { o with entries := (insS (name, (p : Int)) (o.entries.map unE)).map entD } := rfl
    rw [e, ← List.map_set, List.getElem?_map]
    cases hp : (l.set n { o with entries := (insS (name, (p : Int)) (o.entries.map unE)).map entD })[p]? with
    | none => rfl
    | some q =>
      simp only [Option.map_some, List.map_set]
      rfl
theorem sEnter_eq (b : Bool) (l : List Obj) (dir : Int) (name : ByteArray) (obj : Int) : rEnterS b (l.map Obj.ob) dir name obj = ((sEnterS b l dir name obj).1.map Obj.ob, (sEnterS b l dir name obj).2) := by
  unfold rEnterS sEnterS isSO
  by_cases h1 : isSB (l.map Obj.ob) dir 0 = true
  · rw [if_pos h1, if_pos h1]
    by_cases h2 : isSB (l.map Obj.ob) obj 0 = true
    · rw [if_pos h2, if_pos h2, List.getElem?_map]
      cases hn : l[dir.toNat]? with
      | none => rfl
      | some o =>
        simp only [Option.map_some]
        rw [entSO_eq]
        unfold entK entKO
        show (if o.kind ≠ 2 then _ else if o.links = 0 then _ else if b = false then _ else if findS (o.entries.map unE) name ≥ 0 then _ else if o.entries.length ≥ 8 then _ else _) = _
        by_cases a1 : o.kind ≠ 2
        · rw [if_pos a1, if_pos a1]; rfl
        rw [if_neg a1, if_neg a1]
        by_cases a2 : o.links = 0
        · rw [if_pos a2, if_pos a2]; rfl
        rw [if_neg a2, if_neg a2]
        by_cases a3 : b = false
        · rw [if_pos a3, if_pos a3]; rfl
        rw [if_neg a3, if_neg a3]
        by_cases a4 : findS (o.entries.map unE) name ≥ 0
        · rw [if_pos a4, if_pos a4]; rfl
        rw [if_neg a4, if_neg a4]
        by_cases a5 : o.entries.length ≥ 8
        · rw [if_pos a5, if_pos a5]; rfl
        rw [if_neg a5, if_neg a5]
    · rw [if_neg h2, if_neg h2]; rfl
  · rw [if_neg h1, if_neg h1]; rfl
theorem isSO_no1 {l : List Obj} {k : Int} (h : k < 0) : isSO l k 0 = false := by
  unfold isSO isSB
  rw [decide_eq_false (by omega : ¬ k ≥ 0)]; rfl
theorem isSO_no2 {l : List Obj} {k : Int} (h : k ≥ (l.length : Int)) : isSO l k 0 = false := by
  unfold isSO isSB
  rw [List.length_map, decide_eq_false (by omega : ¬ k < (l.length : Int))]; simp
theorem isSO_no3 {l : List Obj} {n : Nat} (hn : n < l.length) (h : l[n].kind = 0) : isSO l n 0 = false := by
  unfold isSO isSB
  rw [Int.toNat_natCast, List.getElem?_map, List.getElem?_eq_getElem hn]
  have : l[n].ob.kind = 0 := h
  simp [this]
theorem isSO_yes {l : List Obj} {n : Nat} (hn : n < l.length) (h : l[n].kind ≠ 0) : isSO l n 0 = true := by
  unfold isSO isSB
  rw [Int.toNat_natCast, List.getElem?_map, List.getElem?_eq_getElem hn, List.length_map]
  have : l[n].ob.kind ≠ 0 := h
  simp [this, hn]
theorem obj_getO {l : List Obj} {k : Nat} (h : k < l.length) : getZ (l.map Obj.enc) (k : Nat) = some [.val (.int .i64 l[k].kind), .sl 1 l[k].data, .sl 2 l[k].entries, .val (.string l[k].target), .val (.int .i64 l[k].peer), .sl 4 (l[k].queue.map Msg.enc), .val (.int .i64 l[k].proc), .val (.int .i64 l[k].links), .val (.int .i64 l[k].up)] := by
  rw [getZ_nat, List.getElem?_map, List.getElem?_eq_getElem h]
  rfl
theorem tup2V {σ : Nat → Nat} {m : Mem} {Z : Nat → Prop} {a a' b b' : RV} (h1 : VwR σ m Z a a') (h2 : VwR σ m Z b b') : VwV σ m Z (.tup [a, b]) (.tup [a', b']) := by
  refine .tup rfl fun i r r' h3 h4 => ?_
  match i with
  | 0 => cases h3; cases h4; exact h1
  | 1 => cases h3; cases h4; exact h2
  | n + 2 => simp at h3
theorem tup3V {σ : Nat → Nat} {m : Mem} {Z : Nat → Prop} {a a' b b' c c' : RV} (h1 : VwR σ m Z a a') (h2 : VwR σ m Z b b') (h0 : VwR σ m Z c c') : VwV σ m Z (.tup [a, b, c]) (.tup [a', b', c']) := by
  refine .tup rfl fun i r r' h3 h4 => ?_
  match i with
  | 0 => cases h3; cases h4; exact h1
  | 1 => cases h3; cases h4; exact h2
  | 2 => cases h3; cases h4; exact h0
  | n + 3 => simp at h3
/-! rows whose directory's entries are a block -/
theorem rowsE_set {p Q : Nat} {l : List Obj} {k : Nat} {o : Obj} (hk : k < l.length) : setN (rowsE p Q 0 l) k (rowE p Q k o) = rowsE p Q 0 (l.set k o) := by
  rw [setN_eq]
  apply List.ext_getElem?
  intro i
  rw [rowsE_get, Nat.zero_add]
  by_cases h : k = i
  · subst h
    rw [List.getElem?_set_self (by rw [rowsE_len]; exact hk), List.getElem?_set_self hk]
    rfl
  · rw [List.getElem?_set_ne h, List.getElem?_set_ne h, rowsE_get, Nat.zero_add]
theorem rowsE_setQ {p Q Q' : Nat} {l : List Obj} {o : Obj} (hp : l[p]? = some o) : setN (rowsE p Q 0 l) p (rowE p Q' p o) = rowsE p Q' 0 l := by
  have hpl := (List.getElem?_eq_some_iff.1 hp).1
  rw [setN_eq]
  apply List.ext_getElem?
  intro i
  rw [rowsE_get, Nat.zero_add]
  by_cases h : p = i
  · subst h
    rw [List.getElem?_set_self (by rw [rowsE_len]; exact hpl), hp]
    rfl
  · rw [List.getElem?_set_ne h, rowsE_get, Nat.zero_add]
    cases l[i]? with
    | none => rfl
    | some x =>
      have h2 : ¬ i = p := fun e => h e.symm
      simp only [Option.map_some, rowE, if_neg h2]
/-- frozen, with the directory's new entries -/
theorem frzEn {m : Mem} {Z : Nat → Prop} {pp : Option Nat} {id p Q : Nat} {l : List Obj} {o : Obj} {E : List (List Dt)} (hz : Z id) (hm : m[id]? = some (.row 9 (rowsE p Q 0 l))) (hzq : Z Q) (hq : m[Q]? = some (.row 2 (dRows E))) (hp : l[p]? = some o) :
    FrzD m Z pp (.row id 9 0 none) (objsD (l.set p { o with entries := E })) := by
  have hpl := (List.getElem?_eq_some_iff.1 hp).1
  have key : ∀ (i : Nat) cs es, (rowsE p Q 0 l)[i]? = some cs → ((l.set p { o with entries := E }).map Obj.enc)[i]? = some es → CcsFz m Z (some id) cs es := by
    intro i cs es h1 h2
    rw [rowsE_get, Nat.zero_add] at h1
    rw [List.getElem?_map] at h2
    by_cases h : p = i
    · subst h
      rw [List.getElem?_set_self hpl] at h2
      rw [hp] at h1
      cases h1
      cases h2
      simp only [rowE, if_pos, Obj.enc]
      exact .cons (.dat _) (.cons (.dat _) (.cons (FrzD.rowD hzq hq 0 none) (.cons (.dat _) (.cons (.dat _) (.cons (.dat _) (.cons (.dat _) (.cons (.dat _) (.cons (.dat _) .nil))))))))
    · rw [List.getElem?_set_ne h] at h2
      cases hx : l[i]? with
      | none => rw [hx] at h1; cases h1
      | some x =>
        rw [hx] at h1 h2
        cases h1
        cases h2
        have h3 : ¬ i = p := fun e => h e.symm
        simp only [rowE, if_neg h3, Obj.enc]
        exact .cons (.dat _) (.cons (.dat _) (.cons (.dat _) (.cons (.dat _) (.cons (.dat _) (.cons (.dat _) (.cons (.dat _) (.cons (.dat _) (.cons (.dat _) .nil))))))))
  exact FrzD.row id 9 0 none _ _ hz hm (by rw [rowsE_len, List.length_map, List.length_set]) (fun i cs es h1 h2 => (key i cs es h1 h2).len) (fun i cs es j c d h1 h2 h3 h4 => (key i cs es h1 h2).get j c d h3 h4)
/-- Insert of one entry, anywhere -/
theorem insert_ok (S : List (List Dt)) (e : List Dt) (i : Nat) (hi : i ≤ S.length) (hl : S.length ≤ 4194304) {m : Mem} {K : CV → Mem → Prop} (a b : Nat) (hab : nodupN [a, b] = true) (hlt : allLt m.length [a, b] = true) (ha : nth m a = some (.row 2 (dRows S))) (hb : nth m b = some (.row 2 (dRows [e])))
    (h : K (.rv (.one (.row m.length 2 0 none))) (weave m [a, b] [.dead, .dead, .row 2 (dRows (S.take i ++ e :: S.drop i))])) : ACall Try.prog 39 [.rv (.one (.row a 2 0 none)), vInt .i64 (i : Nat), .rv (.one (.row b 2 0 none))] m K := by
  by_cases hlt' : i < S.length
  · refine acall_borrow [a, b] m.length rfl rfl hab hlt (args0 := [.rv (.one (.row 0 2 0 none)), vInt .i64 (i : Nat), .rv (.one (.row 1 2 0 none))]) rfl (m0 := [.row 2 (dRows S), .row 2 (dRows [e])]) (fun i b' hi => ?_) (insm_base S e i hlt' hl) (fun r1 m1 hr => ?_)
    · match i, hi with
      | 0, hi => cases hi; exact .inr ⟨fun h => h, _, by rw [nth_eq] at ha; exact ha, .rowDE rfl⟩
      | 1, hi => cases hi; exact .inr ⟨fun h => h, _, by rw [nth_eq] at hb; exact hb, .rowDE rfl⟩
      | n + 2, hi => simp at hi
    · obtain ⟨rfl, rfl⟩ := hr
      refine ⟨by simp, ?_⟩
      show K (.rv (.one (.row (m.length + (2 - 2)) 2 0 none))) (weave m [a, b] [.dead, .dead, .row 2 ((dRows (S.take i ++ e :: S.drop i)).map (fun cs => cs.map (CC.ren (sg [a, b] m.length))))])
      rw [dRows_ren1]
      exact h
  · have : i = S.length := by omega
    subst this
    refine ins_ok S e hl a b hab hlt ha hb ?_
    rw [List.take_length, List.drop_length] at h
    exact h

/-! store.Enter: the walk -/
/-- a list whose directories are sorted -/
structure SrtL (l : List Obj) : Prop where
  fit : fitL l
  en : ∀ o, o ∈ l → ∃ es : List NE, o.entries = es.map entD ∧ Srt es ∧ es.length ≤ 4194304 ∧ ∀ e, e ∈ es → 0 ≤ e.2 ∧ e.2 < (l.length : Int)
def EntP (R : List Obj × Int) (r : CV) (m : Mem) : Prop := ∃ r' m', View 0 ⟨[r], m⟩ ⟨[r'], m'⟩ ∧ r' = .tup [objsR R.1, iRV R.2] ∧ m' = []
theorem entP_err {R : List Obj × Int} {m : Mem} (e : Int) (h : R = ([], e)) : EntP R (.tup [.one .esl, iRV e]) m := by
  subst h
  refine ⟨_, _, View.of m.length [] [] rfl rfl rfl rfl rfl rfl (.put (tup2V (.one (.frz (.esl 9))) (.one (.ren (.dat _)))) .nil) (.nil _), rfl, rfl⟩
theorem entSO_at {l : List Obj} {n p : Nat} (hn : n < l.length) (hp : p < l.length) {name : ByteArray} {E : List (List Dt)} (hE : E = (insS (name, (p : Int)) (l[n].entries.map unE)).map entD) {q : Obj} (hq : q = { l[p] with links := IntKind.i64.wrap (l[p].links + 1), up := if l[p].kind = 2 then (n : Int) else l[p].up }) :
    ∃ o2, (l.set p q)[n]? = some o2 ∧ (l.set p q).set n { o2 with entries := E } = entSO l n p name := by
  subst hE
  unfold entSO
  rw [List.getElem?_eq_getElem hn]
  simp only []
  by_cases h : p = n
  · subst h
    rw [List.getElem?_set_self hn, List.getElem?_set_self hn]
    refine ⟨_, rfl, ?_⟩
    simp only [List.set_set]
    subst hq
    rfl
  · rw [List.getElem?_set_ne h, List.getElem?_eq_getElem hn, List.getElem?_set_ne (fun e => h e.symm), List.getElem?_eq_getElem hp]
    refine ⟨_, rfl, ?_⟩
    simp only []
    rw [List.set_comm _ _ h, ← hq]
set_option maxRecDepth 100000 in
set_option maxHeartbeats 16000000 in
theorem senter_body (l : List Obj) (hs : SrtL l) (dir obj : Int) (name : ByteArray) (b : Bool) (hN : ∀ {m : Mem} {K : CV → Mem → Prop}, K (vBool b) m → ACall Try.prog 37 [vStr name] m K) :
    body Try.prog c14 [objsV l, vInt .i64 dir, vStr name, vInt .i64 obj] [] (EntP (sEnterS b l dir name obj)) := by
  have hE : ∀ R, R = sEnterS b l dir name obj → body Try.prog c14 [objsV l, vInt .i64 dir, vStr name, vInt .i64 obj] [] (EntP R) → body Try.prog c14 [objsV l, vInt .i64 dir, vStr name, vInt .i64 obj] [] (EntP (sEnterS b l dir name obj)) := fun R h h2 => h ▸ h2
  refine bB_dec (fun h1 => ?_) (fun h1 => ?_)
  · exact entP_err 6 (by unfold sEnterS; rw [isSO_no1 h1]; rfl)
  obtain ⟨n, rfl⟩ : ∃ n : Nat, dir = n := ⟨dir.toNat, by have h1 : ¬ dir < 0 := h1; omega⟩
  refine bB_dec (fun h2 => ?_) (fun h2 => ?_)
  · have h2 : (n : Int) ≥ ((l.map Obj.enc).length : Int) := h2
    rw [List.length_map] at h2
    exact entP_err 6 (by unfold sEnterS; rw [isSO_no2 h2]; rfl)
  have h2 : ¬ (n : Int) ≥ ((l.map Obj.enc).length : Int) := h2
  rw [List.length_map] at h2
  have hn : n < l.length := by omega
  have hgn := obj_getO hn
  refine ok_some hgn ?_
  refine bB_beq (fun h3 => ?_) (fun h3 => ?_)
  · exact entP_err 6 (by unfold sEnterS; rw [isSO_no3 hn h3]; rfl)
  have h3 : l[n].kind ≠ 0 := h3
  have d1 := isSO_yes hn h3
  refine bB_dec (fun h4 => ?_) (fun h4 => ?_)
  · exact entP_err 6 (by unfold sEnterS; rw [d1, isSO_no1 h4]; rfl)
  obtain ⟨p, rfl⟩ : ∃ p : Nat, obj = p := ⟨obj.toNat, by have h4 : ¬ obj < 0 := h4; omega⟩
  refine bB_dec (fun h5 => ?_) (fun h5 => ?_)
  · have h5 : (p : Int) ≥ ((l.map Obj.enc).length : Int) := h5
    rw [List.length_map] at h5
    exact entP_err 6 (by unfold sEnterS; rw [d1, isSO_no2 h5]; rfl)
  have h5 : ¬ (p : Int) ≥ ((l.map Obj.enc).length : Int) := h5
  rw [List.length_map] at h5
  have hp : p < l.length := by omega
  have hgp := obj_getO hp
  refine ok_some hgp ?_
  refine bB_beq (fun h6 => ?_) (fun h6 => ?_)
  · exact entP_err 6 (by unfold sEnterS; rw [d1, isSO_no3 hp h6]; rfl)
  have h6 : l[p].kind ≠ 0 := h6
  have d2 := isSO_yes hp h6
  have hR : sEnterS b l n name p = entKO b l[n] (entSO l n p name) name := by
    unfold sEnterS
    rw [if_pos d1, if_pos d2, Int.toNat_natCast, Int.toNat_natCast, List.getElem?_eq_getElem hn]
  rw [hR]
  unfold entKO
  refine ok_some hgn ?_
  refine bB_bne (fun h7 => ?_) (fun h7 => ?_)
  · exact entP_err 11 (if_pos h7)
  have h7 : l[n].kind = 2 := by simpa using h7
  rw [if_neg (by rw [h7]; simp)]
  refine ok_some hgn ?_
  refine bB_beq (fun h8 => ?_) (fun h8 => ?_)
  · exact entP_err 6 (if_pos h8)
  have h8 : l[n].links ≠ 0 := h8
  rw [if_neg h8]
  refine hN ?_
  cases b with
  | false => exact entP_err 7 (if_pos rfl)
  | true =>
  rw [if_neg (by simp)]
  obtain ⟨es, he, hsrt, hesl, hpos⟩ := hs.en _ (List.getElem_mem hn)
  have hun : l[n].entries.map unE = es := by rw [he, unE_map]
  refine sfind_ok l n hn h7 es he (by omega) name ?_
  have hfw : findW l es n name = findS es name := find_uniq hsrt name
  rw [hfw, hun]
  refine bB_dec (fun h9 => ?_) (fun h9 => ?_)
  · exact entP_err 7 (if_pos h9)
  rw [if_neg h9]
  refine ok_some hgn ?_
  refine bB_dec (fun h10 => ?_) (fun h10 => ?_)
  · exact entP_err 15 (if_pos (by have h10 : (l[n].entries.length : Int) ≥ 8 := h10; omega))
  have h10 : ¬ (l[n].entries.length : Int) ≥ 8 := h10
  rw [if_neg (by omega)]
  have hbsB : bsB es name = false := by
    have h9 : ¬ findS es name ≥ 0 := h9
    rw [← hfw] at h9
    cases hb : bsB es name with
    | false => rfl
    | true =>
      exfalso
      apply h9
      unfold findW
      rw [if_pos hb]
      unfold bsB at hb
      cases hg : es[bsI es name]? with
      | none => rw [hg] at hb; cases hb
      | some e => exact (hpos e (List.mem_of_getElem? hg)).1
  have hrow : ∀ Q, nth (rowsE n Q 0 l) n = some [.dat (.val (.int .i64 l[n].kind)), .dat (.sl 1 l[n].data), .row Q 2 0 none, .dat (.val (.string l[n].target)), .dat (.val (.int .i64 l[n].peer)), .dat (.sl 4 (l[n].queue.map Msg.enc)), .dat (.val (.int .i64 l[n].proc)), .dat (.val (.int .i64 l[n].links)), .dat (.val (.int .i64 l[n].up))] := fun Q => by
    rw [nth_eq, rowsE_get, List.getElem?_eq_getElem hn, Nat.zero_add, Option.map_some, rowE, if_pos rfl]
  have heb : ebO l n l.length = .row 2 (dRows (es.map entW)) := by
    unfold ebO
    rw [show Nat.blt n l.length = true by simpa using hn]
    show Bk.row 2 (dRows (match l[n]? with | some o => o.entries | none => [])) = _
    rw [List.getElem?_eq_getElem hn]
    show Bk.row 2 (dRows l[n].entries) = _
    rw [he]
    rfl
  have hlenE : ∀ Q, lenOf (rowsE n Q 0 l).length 0 none = l.length := fun Q => rowsE_len n Q l 0
  have hidx : ∀ Q (k : Nat), k < l.length → idxZ (k : Nat) (lenOf (rowsE n Q 0 l).length 0 none) = some k := fun Q k hk => idxZ_nat (by rw [hlenE]; exact hk)
  refine ownE_ok l hs.fit n ?_
  rw [heb]
  refine ok_some (hidx 1 n hn) ?_
  refine ok_some (hrow 1) ?_
  refine bs_row es (by omega) name 38 (fun e m K h => clo38 e name h) (id := 1) rfl ?_
  refine ok_some (hidx 1 n hn) ?_
  refine ok_some (hrow 1) ?_
  have hbl : bsI es name ≤ es.length := (bsL_spec hsrt name es.length 0 es.length (by omega) (by omega) (by omega) (fun k e hk => absurd hk (Nat.not_lt_zero k)) (fun k e hk he => by have := (List.getElem?_eq_some_iff.1 he).1; omega)).1
  refine insert_ok (es.map entW) (entW (name, (p : Int))) (bsI es name) (by rw [List.length_map]; exact hbl) (by rw [List.length_map]; exact hesl) 1 2 rfl rfl rfl rfl ?_
  refine ok_some (hidx 1 n hn) ?_
  refine ok_some (hrow 1) ?_
  have hX1 : setN (rowsE n 1 0 l) n [.dat (.val (.int .i64 l[n].kind)), .dat (.sl 1 l[n].data), .row 3 2 0 none, .dat (.val (.string l[n].target)), .dat (.val (.int .i64 l[n].peer)), .dat (.sl 4 (l[n].queue.map Msg.enc)), .dat (.val (.int .i64 l[n].proc)), .dat (.val (.int .i64 l[n].links)), .dat (.val (.int .i64 l[n].up))] = rowsE n 3 0 l := by
    have := rowsE_setQ (p := n) (Q := 1) (Q' := 3) (List.getElem?_eq_getElem hn)
    rw [← this, rowE, if_pos rfl]
  have hEq : (es.map entW).take (bsI es name) ++ entW (name, (p : Int)) :: (es.map entW).drop (bsI es name) = (insS (name, (p : Int)) (l[n].entries.map unE)).map entD := by
    rw [hun, bs_ins hsrt hbsB, List.map_append, List.map_cons, List.map_take, List.map_drop]
    rfl
  have hfinal : ∀ L2 : List Obj, L2 = entSO l n p name → aw Try.prog 0 G127 (endK Try.prog c14.res (EntP (entSO l n p name, 0))) ⟨mkE 128 [(10, objsV L2)], []⟩ := fun L2 h => by
    subst h
    exact ⟨_, _, View.of 0 [] [] rfl rfl rfl rfl rfl rfl (.eq rfl .nil) (.nil _), rfl, rfl⟩
  by_cases hpn : p = n
  · have hrp : nth (rowsE n 3 0 l) p = some [.dat (.val (.int .i64 l[p].kind)), .dat (.sl 1 l[p].data), .row 3 2 0 none, .dat (.val (.string l[p].target)), .dat (.val (.int .i64 l[p].peer)), .dat (.sl 4 (l[p].queue.map Msg.enc)), .dat (.val (.int .i64 l[p].proc)), .dat (.val (.int .i64 l[p].links)), .dat (.val (.int .i64 l[p].up))] := by
      rw [nth_eq, rowsE_get, List.getElem?_eq_getElem hp, Nat.zero_add, Option.map_some, rowE, if_pos hpn]
    have hX2 : setN (setN (rowsE n 1 0 l) n [.dat (.val (.int .i64 l[n].kind)), .dat (.sl 1 l[n].data), .row 3 2 0 none, .dat (.val (.string l[n].target)), .dat (.val (.int .i64 l[n].peer)), .dat (.sl 4 (l[n].queue.map Msg.enc)), .dat (.val (.int .i64 l[n].proc)), .dat (.val (.int .i64 l[n].links)), .dat (.val (.int .i64 l[n].up))]) p [.dat (.val (.int .i64 l[p].kind)), .dat (.sl 1 l[p].data), .row 3 2 0 none, .dat (.val (.string l[p].target)), .dat (.val (.int .i64 l[p].peer)), .dat (.sl 4 (l[p].queue.map Msg.enc)), .dat (.val (.int .i64 l[p].proc)), .dat (.val (.int .i64 (IntKind.i64.wrap (l[p].links + 1)))), .dat (.val (.int .i64 l[p].up))] = rowsE n 3 0 (l.set p { l[p] with links := IntKind.i64.wrap (l[p].links + 1) }) := by
      rw [hX1]
      have := rowsE_set (p := n) (Q := 3) (o := { l[p] with links := IntKind.i64.wrap (l[p].links + 1) }) hp
      rw [← this, rowE, if_pos hpn]
    have hi2 : ∀ l2 : List Obj, l2.length = l.length → idxZ (p : Nat) (lenOf (rowsE n 3 0 l2).length 0 none) = some p := fun l2 h => idxZ_nat (by rw [show lenOf (rowsE n 3 0 l2).length 0 none = l2.length from rowsE_len n 3 l2 0, h]; exact hp)
    have hr2 : nth (setN (setN (rowsE n 1 0 l) n [.dat (.val (.int .i64 l[n].kind)), .dat (.sl 1 l[n].data), .row 3 2 0 none, .dat (.val (.string l[n].target)), .dat (.val (.int .i64 l[n].peer)), .dat (.sl 4 (l[n].queue.map Msg.enc)), .dat (.val (.int .i64 l[n].proc)), .dat (.val (.int .i64 l[n].links)), .dat (.val (.int .i64 l[n].up))]) p [.dat (.val (.int .i64 l[p].kind)), .dat (.sl 1 l[p].data), .row 3 2 0 none, .dat (.val (.string l[p].target)), .dat (.val (.int .i64 l[p].peer)), .dat (.sl 4 (l[p].queue.map Msg.enc)), .dat (.val (.int .i64 l[p].proc)), .dat (.val (.int .i64 (IntKind.i64.wrap (l[p].links + 1)))), .dat (.val (.int .i64 l[p].up))]) p = some [.dat (.val (.int .i64 l[p].kind)), .dat (.sl 1 l[p].data), .row 3 2 0 none, .dat (.val (.string l[p].target)), .dat (.val (.int .i64 l[p].peer)), .dat (.sl 4 (l[p].queue.map Msg.enc)), .dat (.val (.int .i64 l[p].proc)), .dat (.val (.int .i64 (IntKind.i64.wrap (l[p].links + 1)))), .dat (.val (.int .i64 l[p].up))] := by
      rw [setN_eq, nth_eq, List.getElem?_set_self (by rw [hX1, rowsE_len]; exact hp)]
    refine ok_some (by rw [hX1]; exact hi2 l rfl : idxZ (p : Nat) (lenOf (setN (rowsE n 1 0 l) n [.dat (.val (.int .i64 l[n].kind)), .dat (.sl 1 l[n].data), .row 3 2 0 none, .dat (.val (.string l[n].target)), .dat (.val (.int .i64 l[n].peer)), .dat (.sl 4 (l[n].queue.map Msg.enc)), .dat (.val (.int .i64 l[n].proc)), .dat (.val (.int .i64 l[n].links)), .dat (.val (.int .i64 l[n].up))]).length 0 none) = some p) ?_
    refine ok_some (by rw [hX1]; exact hrp : nth (setN (rowsE n 1 0 l) n [.dat (.val (.int .i64 l[n].kind)), .dat (.sl 1 l[n].data), .row 3 2 0 none, .dat (.val (.string l[n].target)), .dat (.val (.int .i64 l[n].peer)), .dat (.sl 4 (l[n].queue.map Msg.enc)), .dat (.val (.int .i64 l[n].proc)), .dat (.val (.int .i64 l[n].links)), .dat (.val (.int .i64 l[n].up))]) p = some [.dat (.val (.int .i64 l[p].kind)), .dat (.sl 1 l[p].data), .row 3 2 0 none, .dat (.val (.string l[p].target)), .dat (.val (.int .i64 l[p].peer)), .dat (.sl 4 (l[p].queue.map Msg.enc)), .dat (.val (.int .i64 l[p].proc)), .dat (.val (.int .i64 l[p].links)), .dat (.val (.int .i64 l[p].up))]) ?_
    refine ok_some (by rw [hX1]; exact hi2 l rfl : idxZ (p : Nat) (lenOf (setN (rowsE n 1 0 l) n [.dat (.val (.int .i64 l[n].kind)), .dat (.sl 1 l[n].data), .row 3 2 0 none, .dat (.val (.string l[n].target)), .dat (.val (.int .i64 l[n].peer)), .dat (.sl 4 (l[n].queue.map Msg.enc)), .dat (.val (.int .i64 l[n].proc)), .dat (.val (.int .i64 l[n].links)), .dat (.val (.int .i64 l[n].up))]).length 0 none) = some p) ?_
    refine ok_some (by rw [hX1]; exact hrp : nth (setN (rowsE n 1 0 l) n [.dat (.val (.int .i64 l[n].kind)), .dat (.sl 1 l[n].data), .row 3 2 0 none, .dat (.val (.string l[n].target)), .dat (.val (.int .i64 l[n].peer)), .dat (.sl 4 (l[n].queue.map Msg.enc)), .dat (.val (.int .i64 l[n].proc)), .dat (.val (.int .i64 l[n].links)), .dat (.val (.int .i64 l[n].up))]) p = some [.dat (.val (.int .i64 l[p].kind)), .dat (.sl 1 l[p].data), .row 3 2 0 none, .dat (.val (.string l[p].target)), .dat (.val (.int .i64 l[p].peer)), .dat (.sl 4 (l[p].queue.map Msg.enc)), .dat (.val (.int .i64 l[p].proc)), .dat (.val (.int .i64 l[p].links)), .dat (.val (.int .i64 l[p].up))]) ?_
    refine ok_some (by rw [hX2]; exact hi2 _ (List.length_set ..) : idxZ (p : Nat) (lenOf (setN (setN (rowsE n 1 0 l) n [.dat (.val (.int .i64 l[n].kind)), .dat (.sl 1 l[n].data), .row 3 2 0 none, .dat (.val (.string l[n].target)), .dat (.val (.int .i64 l[n].peer)), .dat (.sl 4 (l[n].queue.map Msg.enc)), .dat (.val (.int .i64 l[n].proc)), .dat (.val (.int .i64 l[n].links)), .dat (.val (.int .i64 l[n].up))]) p [.dat (.val (.int .i64 l[p].kind)), .dat (.sl 1 l[p].data), .row 3 2 0 none, .dat (.val (.string l[p].target)), .dat (.val (.int .i64 l[p].peer)), .dat (.sl 4 (l[p].queue.map Msg.enc)), .dat (.val (.int .i64 l[p].proc)), .dat (.val (.int .i64 (IntKind.i64.wrap (l[p].links + 1)))), .dat (.val (.int .i64 l[p].up))]).length 0 none) = some p) ?_
    refine ok_some hr2 ?_
    refine bB_beq (fun hk => ?_) (fun hk => ?_)
    · have hk : l[p].kind = 2 := hk
      have hX3 : setN (setN (setN (rowsE n 1 0 l) n [.dat (.val (.int .i64 l[n].kind)), .dat (.sl 1 l[n].data), .row 3 2 0 none, .dat (.val (.string l[n].target)), .dat (.val (.int .i64 l[n].peer)), .dat (.sl 4 (l[n].queue.map Msg.enc)), .dat (.val (.int .i64 l[n].proc)), .dat (.val (.int .i64 l[n].links)), .dat (.val (.int .i64 l[n].up))]) p [.dat (.val (.int .i64 l[p].kind)), .dat (.sl 1 l[p].data), .row 3 2 0 none, .dat (.val (.string l[p].target)), .dat (.val (.int .i64 l[p].peer)), .dat (.sl 4 (l[p].queue.map Msg.enc)), .dat (.val (.int .i64 l[p].proc)), .dat (.val (.int .i64 (IntKind.i64.wrap (l[p].links + 1)))), .dat (.val (.int .i64 l[p].up))]) p [.dat (.val (.int .i64 l[p].kind)), .dat (.sl 1 l[p].data), .row 3 2 0 none, .dat (.val (.string l[p].target)), .dat (.val (.int .i64 l[p].peer)), .dat (.sl 4 (l[p].queue.map Msg.enc)), .dat (.val (.int .i64 l[p].proc)), .dat (.val (.int .i64 (IntKind.i64.wrap (l[p].links + 1)))), .dat (.val (.int .i64 (n : Nat)))] = rowsE n 3 0 (l.set p { l[p] with links := IntKind.i64.wrap (l[p].links + 1), up := (n : Int) }) := by
        rw [hX2]
        have := rowsE_set (p := n) (Q := 3) (l := l.set p { l[p] with links := IntKind.i64.wrap (l[p].links + 1) }) (k := p) (o := { l[p] with links := IntKind.i64.wrap (l[p].links + 1), up := (n : Int) }) (by rw [List.length_set]; exact hp)
        rw [List.set_set] at this
        rw [← this, rowE, if_pos hpn]
      refine ok_some (by rw [hX2]; exact hi2 _ (List.length_set ..) : idxZ (p : Nat) (lenOf (setN (setN (rowsE n 1 0 l) n [.dat (.val (.int .i64 l[n].kind)), .dat (.sl 1 l[n].data), .row 3 2 0 none, .dat (.val (.string l[n].target)), .dat (.val (.int .i64 l[n].peer)), .dat (.sl 4 (l[n].queue.map Msg.enc)), .dat (.val (.int .i64 l[n].proc)), .dat (.val (.int .i64 l[n].links)), .dat (.val (.int .i64 l[n].up))]) p [.dat (.val (.int .i64 l[p].kind)), .dat (.sl 1 l[p].data), .row 3 2 0 none, .dat (.val (.string l[p].target)), .dat (.val (.int .i64 l[p].peer)), .dat (.sl 4 (l[p].queue.map Msg.enc)), .dat (.val (.int .i64 l[p].proc)), .dat (.val (.int .i64 (IntKind.i64.wrap (l[p].links + 1)))), .dat (.val (.int .i64 l[p].up))]).length 0 none) = some p) ?_
      refine ok_some hr2 ?_
      obtain ⟨o2, ho2, hfin⟩ := entSO_at (name := name) hn hp hEq (q := { l[p] with links := IntKind.i64.wrap (l[p].links + 1), up := (n : Int) }) (by rw [if_pos hk])
      refine ⟨_, View.of 4 [] [0, 3] rfl rfl rfl rfl rfl rfl ?_ (.nil _), hfinal _ hfin⟩
      iterate 10 refine .junk ?_
      refine .put (.rv (.one (.frz (p := none) (frzEn (Z := fun k => memN [0, 3] k = true) rfl (by show some (Bk.row 9 _) = some (Bk.row 9 _); congr 1; exact congrArg _ hX3) rfl rfl ho2)))) ?_
      repeat (first | exact .nil | refine .junk ?_)
    · have hk : l[p].kind ≠ 2 := hk
      obtain ⟨o2, ho2, hfin⟩ := entSO_at (name := name) hn hp hEq (q := { l[p] with links := IntKind.i64.wrap (l[p].links + 1) }) (by rw [if_neg hk])
      refine ⟨_, View.of 4 [] [0, 3] rfl rfl rfl rfl rfl rfl ?_ (.nil _), hfinal _ hfin⟩
      iterate 10 refine .junk ?_
      refine .put (.rv (.one (.frz (p := none) (frzEn (Z := fun k => memN [0, 3] k = true) rfl (by show some (Bk.row 9 _) = some (Bk.row 9 _); congr 1; exact congrArg _ hX2) rfl rfl ho2)))) ?_
      repeat (first | exact .nil | refine .junk ?_)
  · have hrp : nth (rowsE n 3 0 l) p = some [.dat (.val (.int .i64 l[p].kind)), .dat (.sl 1 l[p].data), .dat (.sl 2 l[p].entries), .dat (.val (.string l[p].target)), .dat (.val (.int .i64 l[p].peer)), .dat (.sl 4 (l[p].queue.map Msg.enc)), .dat (.val (.int .i64 l[p].proc)), .dat (.val (.int .i64 l[p].links)), .dat (.val (.int .i64 l[p].up))] := by
      rw [nth_eq, rowsE_get, List.getElem?_eq_getElem hp, Nat.zero_add, Option.map_some, rowE, if_neg hpn]
    have hX2 : setN (setN (rowsE n 1 0 l) n [.dat (.val (.int .i64 l[n].kind)), .dat (.sl 1 l[n].data), .row 3 2 0 none, .dat (.val (.string l[n].target)), .dat (.val (.int .i64 l[n].peer)), .dat (.sl 4 (l[n].queue.map Msg.enc)), .dat (.val (.int .i64 l[n].proc)), .dat (.val (.int .i64 l[n].links)), .dat (.val (.int .i64 l[n].up))]) p [.dat (.val (.int .i64 l[p].kind)), .dat (.sl 1 l[p].data), .dat (.sl 2 l[p].entries), .dat (.val (.string l[p].target)), .dat (.val (.int .i64 l[p].peer)), .dat (.sl 4 (l[p].queue.map Msg.enc)), .dat (.val (.int .i64 l[p].proc)), .dat (.val (.int .i64 (IntKind.i64.wrap (l[p].links + 1)))), .dat (.val (.int .i64 l[p].up))] = rowsE n 3 0 (l.set p { l[p] with links := IntKind.i64.wrap (l[p].links + 1) }) := by
      rw [hX1]
      have := rowsE_set (p := n) (Q := 3) (o := { l[p] with links := IntKind.i64.wrap (l[p].links + 1) }) hp
      rw [← this, rowE, if_neg hpn]
    have hi2 : ∀ l2 : List Obj, l2.length = l.length → idxZ (p : Nat) (lenOf (rowsE n 3 0 l2).length 0 none) = some p := fun l2 h => idxZ_nat (by rw [show lenOf (rowsE n 3 0 l2).length 0 none = l2.length from rowsE_len n 3 l2 0, h]; exact hp)
    have hr2 : nth (setN (setN (rowsE n 1 0 l) n [.dat (.val (.int .i64 l[n].kind)), .dat (.sl 1 l[n].data), .row 3 2 0 none, .dat (.val (.string l[n].target)), .dat (.val (.int .i64 l[n].peer)), .dat (.sl 4 (l[n].queue.map Msg.enc)), .dat (.val (.int .i64 l[n].proc)), .dat (.val (.int .i64 l[n].links)), .dat (.val (.int .i64 l[n].up))]) p [.dat (.val (.int .i64 l[p].kind)), .dat (.sl 1 l[p].data), .dat (.sl 2 l[p].entries), .dat (.val (.string l[p].target)), .dat (.val (.int .i64 l[p].peer)), .dat (.sl 4 (l[p].queue.map Msg.enc)), .dat (.val (.int .i64 l[p].proc)), .dat (.val (.int .i64 (IntKind.i64.wrap (l[p].links + 1)))), .dat (.val (.int .i64 l[p].up))]) p = some [.dat (.val (.int .i64 l[p].kind)), .dat (.sl 1 l[p].data), .dat (.sl 2 l[p].entries), .dat (.val (.string l[p].target)), .dat (.val (.int .i64 l[p].peer)), .dat (.sl 4 (l[p].queue.map Msg.enc)), .dat (.val (.int .i64 l[p].proc)), .dat (.val (.int .i64 (IntKind.i64.wrap (l[p].links + 1)))), .dat (.val (.int .i64 l[p].up))] := by
      rw [setN_eq, nth_eq, List.getElem?_set_self (by rw [hX1, rowsE_len]; exact hp)]
    refine ok_some (by rw [hX1]; exact hi2 l rfl : idxZ (p : Nat) (lenOf (setN (rowsE n 1 0 l) n [.dat (.val (.int .i64 l[n].kind)), .dat (.sl 1 l[n].data), .row 3 2 0 none, .dat (.val (.string l[n].target)), .dat (.val (.int .i64 l[n].peer)), .dat (.sl 4 (l[n].queue.map Msg.enc)), .dat (.val (.int .i64 l[n].proc)), .dat (.val (.int .i64 l[n].links)), .dat (.val (.int .i64 l[n].up))]).length 0 none) = some p) ?_
    refine ok_some (by rw [hX1]; exact hrp : nth (setN (rowsE n 1 0 l) n [.dat (.val (.int .i64 l[n].kind)), .dat (.sl 1 l[n].data), .row 3 2 0 none, .dat (.val (.string l[n].target)), .dat (.val (.int .i64 l[n].peer)), .dat (.sl 4 (l[n].queue.map Msg.enc)), .dat (.val (.int .i64 l[n].proc)), .dat (.val (.int .i64 l[n].links)), .dat (.val (.int .i64 l[n].up))]) p = some [.dat (.val (.int .i64 l[p].kind)), .dat (.sl 1 l[p].data), .dat (.sl 2 l[p].entries), .dat (.val (.string l[p].target)), .dat (.val (.int .i64 l[p].peer)), .dat (.sl 4 (l[p].queue.map Msg.enc)), .dat (.val (.int .i64 l[p].proc)), .dat (.val (.int .i64 l[p].links)), .dat (.val (.int .i64 l[p].up))]) ?_
    refine ok_some (by rw [hX1]; exact hi2 l rfl : idxZ (p : Nat) (lenOf (setN (rowsE n 1 0 l) n [.dat (.val (.int .i64 l[n].kind)), .dat (.sl 1 l[n].data), .row 3 2 0 none, .dat (.val (.string l[n].target)), .dat (.val (.int .i64 l[n].peer)), .dat (.sl 4 (l[n].queue.map Msg.enc)), .dat (.val (.int .i64 l[n].proc)), .dat (.val (.int .i64 l[n].links)), .dat (.val (.int .i64 l[n].up))]).length 0 none) = some p) ?_
    refine ok_some (by rw [hX1]; exact hrp : nth (setN (rowsE n 1 0 l) n [.dat (.val (.int .i64 l[n].kind)), .dat (.sl 1 l[n].data), .row 3 2 0 none, .dat (.val (.string l[n].target)), .dat (.val (.int .i64 l[n].peer)), .dat (.sl 4 (l[n].queue.map Msg.enc)), .dat (.val (.int .i64 l[n].proc)), .dat (.val (.int .i64 l[n].links)), .dat (.val (.int .i64 l[n].up))]) p = some [.dat (.val (.int .i64 l[p].kind)), .dat (.sl 1 l[p].data), .dat (.sl 2 l[p].entries), .dat (.val (.string l[p].target)), .dat (.val (.int .i64 l[p].peer)), .dat (.sl 4 (l[p].queue.map Msg.enc)), .dat (.val (.int .i64 l[p].proc)), .dat (.val (.int .i64 l[p].links)), .dat (.val (.int .i64 l[p].up))]) ?_
    refine ok_some (by rw [hX2]; exact hi2 _ (List.length_set ..) : idxZ (p : Nat) (lenOf (setN (setN (rowsE n 1 0 l) n [.dat (.val (.int .i64 l[n].kind)), .dat (.sl 1 l[n].data), .row 3 2 0 none, .dat (.val (.string l[n].target)), .dat (.val (.int .i64 l[n].peer)), .dat (.sl 4 (l[n].queue.map Msg.enc)), .dat (.val (.int .i64 l[n].proc)), .dat (.val (.int .i64 l[n].links)), .dat (.val (.int .i64 l[n].up))]) p [.dat (.val (.int .i64 l[p].kind)), .dat (.sl 1 l[p].data), .dat (.sl 2 l[p].entries), .dat (.val (.string l[p].target)), .dat (.val (.int .i64 l[p].peer)), .dat (.sl 4 (l[p].queue.map Msg.enc)), .dat (.val (.int .i64 l[p].proc)), .dat (.val (.int .i64 (IntKind.i64.wrap (l[p].links + 1)))), .dat (.val (.int .i64 l[p].up))]).length 0 none) = some p) ?_
    refine ok_some hr2 ?_
    refine bB_beq (fun hk => ?_) (fun hk => ?_)
    · have hk : l[p].kind = 2 := hk
      have hX3 : setN (setN (setN (rowsE n 1 0 l) n [.dat (.val (.int .i64 l[n].kind)), .dat (.sl 1 l[n].data), .row 3 2 0 none, .dat (.val (.string l[n].target)), .dat (.val (.int .i64 l[n].peer)), .dat (.sl 4 (l[n].queue.map Msg.enc)), .dat (.val (.int .i64 l[n].proc)), .dat (.val (.int .i64 l[n].links)), .dat (.val (.int .i64 l[n].up))]) p [.dat (.val (.int .i64 l[p].kind)), .dat (.sl 1 l[p].data), .dat (.sl 2 l[p].entries), .dat (.val (.string l[p].target)), .dat (.val (.int .i64 l[p].peer)), .dat (.sl 4 (l[p].queue.map Msg.enc)), .dat (.val (.int .i64 l[p].proc)), .dat (.val (.int .i64 (IntKind.i64.wrap (l[p].links + 1)))), .dat (.val (.int .i64 l[p].up))]) p [.dat (.val (.int .i64 l[p].kind)), .dat (.sl 1 l[p].data), .dat (.sl 2 l[p].entries), .dat (.val (.string l[p].target)), .dat (.val (.int .i64 l[p].peer)), .dat (.sl 4 (l[p].queue.map Msg.enc)), .dat (.val (.int .i64 l[p].proc)), .dat (.val (.int .i64 (IntKind.i64.wrap (l[p].links + 1)))), .dat (.val (.int .i64 (n : Nat)))] = rowsE n 3 0 (l.set p { l[p] with links := IntKind.i64.wrap (l[p].links + 1), up := (n : Int) }) := by
        rw [hX2]
        have := rowsE_set (p := n) (Q := 3) (l := l.set p { l[p] with links := IntKind.i64.wrap (l[p].links + 1) }) (k := p) (o := { l[p] with links := IntKind.i64.wrap (l[p].links + 1), up := (n : Int) }) (by rw [List.length_set]; exact hp)
        rw [List.set_set] at this
        rw [← this, rowE, if_neg hpn]
      refine ok_some (by rw [hX2]; exact hi2 _ (List.length_set ..) : idxZ (p : Nat) (lenOf (setN (setN (rowsE n 1 0 l) n [.dat (.val (.int .i64 l[n].kind)), .dat (.sl 1 l[n].data), .row 3 2 0 none, .dat (.val (.string l[n].target)), .dat (.val (.int .i64 l[n].peer)), .dat (.sl 4 (l[n].queue.map Msg.enc)), .dat (.val (.int .i64 l[n].proc)), .dat (.val (.int .i64 l[n].links)), .dat (.val (.int .i64 l[n].up))]) p [.dat (.val (.int .i64 l[p].kind)), .dat (.sl 1 l[p].data), .dat (.sl 2 l[p].entries), .dat (.val (.string l[p].target)), .dat (.val (.int .i64 l[p].peer)), .dat (.sl 4 (l[p].queue.map Msg.enc)), .dat (.val (.int .i64 l[p].proc)), .dat (.val (.int .i64 (IntKind.i64.wrap (l[p].links + 1)))), .dat (.val (.int .i64 l[p].up))]).length 0 none) = some p) ?_
      refine ok_some hr2 ?_
      obtain ⟨o2, ho2, hfin⟩ := entSO_at (name := name) hn hp hEq (q := { l[p] with links := IntKind.i64.wrap (l[p].links + 1), up := (n : Int) }) (by rw [if_pos hk])
      refine ⟨_, View.of 4 [] [0, 3] rfl rfl rfl rfl rfl rfl ?_ (.nil _), hfinal _ hfin⟩
      iterate 10 refine .junk ?_
      refine .put (.rv (.one (.frz (p := none) (frzEn (Z := fun k => memN [0, 3] k = true) rfl (by show some (Bk.row 9 _) = some (Bk.row 9 _); congr 1; exact congrArg _ hX3) rfl rfl ho2)))) ?_
      repeat (first | exact .nil | refine .junk ?_)
    · have hk : l[p].kind ≠ 2 := hk
      obtain ⟨o2, ho2, hfin⟩ := entSO_at (name := name) hn hp hEq (q := { l[p] with links := IntKind.i64.wrap (l[p].links + 1) }) (by rw [if_neg hk])
      refine ⟨_, View.of 4 [] [0, 3] rfl rfl rfl rfl rfl rfl ?_ (.nil _), hfinal _ hfin⟩
      iterate 10 refine .junk ?_
      refine .put (.rv (.one (.frz (p := none) (frzEn (Z := fun k => memN [0, 3] k = true) rfl (by show some (Bk.row 9 _) = some (Bk.row 9 _); congr 1; exact congrArg _ hX2) rfl rfl ho2)))) ?_
      repeat (first | exact .nil | refine .junk ?_)
set_option maxRecDepth 100000 in
theorem senter_ok (l : List Obj) (hs : SrtL l) (dir obj : Int) (name : ByteArray) (b : Bool) (hN : ∀ {m : Mem} {K : CV → Mem → Prop}, K (vBool b) m → ACall Try.prog 37 [vStr name] m K) {m : Mem} {K : CV → Mem → Prop}
    (h : K (.tup [objsR (sEnterS b l dir name obj).1, iRV (sEnterS b l dir name obj).2]) m) : ACall Try.prog 14 [objsV l, vInt .i64 dir, vStr name, vInt .i64 obj] m K := by
  refine acall_frame (K0 := fun r m => r = .tup [objsR (sEnterS b l dir name obj).1, iRV (sEnterS b l dir name obj).2] ∧ m = []) (acall_view (acall_body_g Try.func14 l14 rfl (Nat.le_of_ble_eq_true rfl) (senter_body l hs dir obj name b hN)) fun r m1 ⟨r', m', hv, h1, h2⟩ => ⟨r', m', hv, h1, h2⟩) (by simp [objsV, vInt, vStr, CV.isD, CC.isD]) fun r m1 hr => ?_
  obtain ⟨rfl, rfl⟩ := hr
  exact ⟨_, FrzV.self rfl, h⟩


end Go.Proofs.Ytmekobkcgajcjaa
