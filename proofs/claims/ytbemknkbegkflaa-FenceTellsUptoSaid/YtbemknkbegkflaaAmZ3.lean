import Derived.Test.YtbemknkbegkflaaAmZ2
import Derived.Sort.Grow
set_option linter.unusedVariables false
set_option linter.unusedSimpArgs false
set_option linter.unnecessarySimpa false
/-! A row laid anew by somebody else's contract: the sort's world. -/
namespace Go.AM
section
variable {P : Program} {ρ : Rho} {m : Mem} {w : World}
theorem mapBlock_heap (w : World) (blk : Nat) (f : Array Value → Array Value) {b : Nat} (h : b ≠ blk) : (Sort.mapBlock w blk f).heap[b]? = w.heap[b]? := by
  simp only [Sort.mapBlock, Array.getElem?_modify]
  rw [if_neg (fun e => h e.symm)]
theorem putRow_turned (w : World) (n blk off : Nat) (F : Array Value) : Turned w (Sort.putRow id (Sort.ahead w n) blk off F) blk :=
  ⟨fun b hb => mapBlock_heap _ _ _ hb, by simp [Sort.putRow, Sort.mapBlock, Sort.ahead], rfl, rfl, rfl⟩
theorem putRow_cur {mk : Prop} {w : World} {blk off : Nat} {cur : Array Value} (F : Array Value) (n : Nat) (h : Cur mk w blk cur) : Cur mk (Sort.putRow id (Sort.ahead w n) blk off F) blk (Sort.putCells id off F cur) := by
  obtain ⟨ty, fr, hb, h1, h2, h3⟩ := h
  refine ⟨ty, fr, ?_, h1, fun i hi => h2 i (by simpa [Sort.putCells] using hi), by simpa [Sort.putCells] using h3⟩
  have hlt : blk < w.heap.size := (Array.getElem?_eq_some_iff.1 hb).1
  have e : (Sort.ahead w n).heap[blk]? = some (.cells cur ty fr) := hb
  simp only [Sort.putRow, Sort.mapBlock, Array.getElem?_modify, if_true, e, Option.map_some, Sort.onCells]
theorem put_sound (hM : MemRel ρ m w) {id esz : Nat} {rows rows' : List (List CC)} {F : Array Value} (hb : m[id]? = some (.row esz rows)) (hpos : 0 < rows.length) (hlen : rows'.length = rows.length)
    (hsz : ∀ cs, cs ∈ rows' → cs.length = esz) (hF : F.size = rows.length * esz) (hdat : ∀ cs, cs ∈ rows' → ∀ c, c ∈ cs → ∃ d, c = .dat d)
    (hden : ∀ (i : Nat) cs (j : Nat) c, rows'[i]? = some cs → cs[j]? = some c → DenC ρ w .none c F[i * esz + j]!) (n : Nat) (os : Array Obj) :
    MemRel ρ (m.set id (.row esz rows')) (Sort.grow (Sort.putRow _root_.id (Sort.ahead w n) (ρ.loc (.root id)).b (ρ.loc (.root id)).base F) os) ∧
    Ext ρ m w ρ (m.set id (.row esz rows')) (Sort.grow (Sort.putRow _root_.id (Sort.ahead w n) (ρ.loc (.root id)).b (ρ.loc (.root id)).base F) os) := by
  have hid : id < m.length := (List.getElem?_eq_some_iff.1 hb).1
  obtain ⟨h2, h3, h4, h5, hcu⟩ := hM.bk id _ hb
  have hcap : 0 < (ρ.loc (.root id)).cap := by omega
  obtain ⟨cur, hcur, h1, hd⟩ := hcu hcap
  have hmul : rows.length * esz ≤ (ρ.loc (.root id)).cap * esz := Nat.mul_le_mul_right _ (by omega)
  have nodat : ∀ {i' j' esz2 e}, OwnAt (m.set id (.row esz rows')) id i' j' esz2 e → False := by
    rintro i' j' esz2 e ⟨es, rows2, cs2, hb2, hi2, hj2⟩
    rw [List.getElem?_set_self hid] at hb2
    cases hb2
    obtain ⟨d, hd⟩ := hdat _ (List.mem_of_getElem? hi2) _ (List.mem_of_getElem? hj2)
    cases hd
  obtain ⟨hM', hX⟩ := hM.upd (bk' := .row esz rows') (w' := Sort.putRow _root_.id (Sort.ahead w n) (ρ.loc (.root id)).b (ρ.loc (.root id)).base F) hb ⟨_, hb, by simp, fun _ => hcap⟩ (putRow_turned w n _ _ F)
    (fun g => ⟨by rw [hlen]; exact h2, h3, h4, hsz, fun _ => ⟨_, putRow_cur F n hcur, by simpa [Sort.putCells] using h1, fun i cs j c hi hj => by
      have hjl : j < esz := by
        rw [← hsz cs (List.mem_of_getElem? hi)]; exact (List.getElem?_eq_some_iff.1 hj).1
      have hil : i < rows.length := by rw [← hlen]; exact (List.getElem?_eq_some_iff.1 hi).1
      have hij : i * esz + j < rows.length * esz := by
        have : (i + 1) * esz ≤ rows.length * esz := Nat.mul_le_mul_right _ (by omega)
        rw [Nat.add_mul, Nat.one_mul] at this
        omega
      have hdu := hden i cs j c hi hj
      refine ⟨F[i * esz + j]!, ?_, (DenC.goes g (by simp) hdu).anyPos _⟩
      have hc : (ρ.loc (.root id)).base + i * esz + j < cur.size := by omega
      simp only [Sort.putCells, Array.getElem?_mapIdx, Array.getElem?_eq_getElem hc, Option.map_some]
      rw [if_pos (by omega)]
      congr 2
      show F[_]! = _
      congr 1
      omega⟩⟩)
    (fun i j e1 e2 h => (nodat h).elim)
  have hW : Wider (Sort.putRow _root_.id (Sort.ahead w n) (ρ.loc (.root id)).b (ρ.loc (.root id)).base F) (Sort.grow (Sort.putRow _root_.id (Sort.ahead w n) (ρ.loc (.root id)).b (ρ.loc (.root id)).base F) os) :=
    ⟨fun b hb => Sort.heap_grow_old _ os hb, by simp [Sort.grow], rfl, rfl, rfl⟩
  obtain ⟨hM2, hX2⟩ := hM'.wider hW
  exact ⟨hM2, hX.trans hX2⟩
end
end Go.AM
