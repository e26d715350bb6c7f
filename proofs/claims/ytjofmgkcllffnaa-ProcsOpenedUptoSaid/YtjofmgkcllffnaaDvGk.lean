import Derived.Test.YtjofmgkcllffnaaAmZ2
import Derived.Test.YtjofmgkcllffnaaDvGi
import Derived.Test.YtjofmgkcllffnaaAmY
set_option linter.unusedVariables false
set_option linter.unusedSimpArgs false
namespace Go.Proofs.Ytjofmgkcllffnaa
open Go.AM Go.ChangeShapes Go.WideShapes Go.ChangeAt Go.RowKit
def c5 : LF := ⟨134, [.tmp 8], (.seq (.reg [
    ⟨(some 8), .mov (.c (.rv (.one (.dat (.val (.bool false)))))), none⟩]) (.seq (.seq (.reg [
    ⟨(some 17), .call (.c (.rv (.one (.fn 7 [])))) [], none⟩,
    ⟨(some 18), .un .not (.t 17), none⟩]) (.cond (.t 18) (.seq (.reg [
    ⟨(some 8), .mov (.c (.rv (.one (.dat (.val (.bool false)))))), none⟩]) .ret) .skip)) (.seq (.reg [
    ⟨(some 19), .mov (.t 0), none⟩,
    ⟨(some 20), .call (.c (.rv (.one (.fn 9 [])))) [(.t 19)], none⟩,
    ⟨(some 21), .call (.c (.rv (.one (.fn 8 [])))) [(.t 20)], none⟩,
    ⟨(some 9), .alloc [.esl, .esl, .esl], none⟩,
    ⟨none, .store 3 (.t 9) (.t 21), none⟩]) (.seq (.seq (.reg [
    ⟨(some 22), .load true 3 (.t 9), none⟩,
    ⟨(some 23), .mov (.t 1), none⟩,
    ⟨(some 24), .call (.c (.rv (.one (.fn 16 [])))) [(.t 22), (.t 23)], none⟩,
    ⟨(some 25), .un .not (.t 24), none⟩,
    ⟨(some 26), .mov (.t 25), none⟩,
    ⟨(some 27), .fadr 0 (.t 9), (some (26, false))⟩,
    ⟨(some 28), .load false 1 (.t 27), (some (26, false))⟩,
    ⟨(some 29), .mov (.t 2), (some (26, false))⟩,
    ⟨(some 30), .call (.c (.rv (.one (.fn 13 [])))) [(.t 28), (.t 29), (.c (.rv (.one (.dat (.val (.int .i64 (0)))))))], (some (26, false))⟩,
    ⟨(some 31), .un .not (.t 30), (some (26, false))⟩,
    ⟨(some 32), .pick (.t 26) (.c (.rv (.one (.dat (.val (.bool true)))))) (.t 31), none⟩,
    ⟨(some 33), .mov (.t 32), none⟩,
    ⟨(some 34), .mov (.t 3), (some (33, false))⟩,
    ⟨(some 35), .bin .lss (.t 34) (.c (.rv (.one (.dat (.val (.int .i64 (0))))))), (some (33, false))⟩,
    ⟨(some 36), .pick (.t 33) (.c (.rv (.one (.dat (.val (.bool true)))))) (.t 35), none⟩,
    ⟨(some 37), .mov (.t 36), none⟩,
    ⟨(some 38), .mov (.t 3), (some (37, false))⟩,
    ⟨(some 39), .bin .gtr (.t 38) (.c (.rv (.one (.dat (.val (.int .i64 (4095))))))), (some (37, false))⟩,
    ⟨(some 40), .pick (.t 37) (.c (.rv (.one (.dat (.val (.bool true)))))) (.t 39), none⟩]) (.cond (.t 40) (.seq (.reg [
    ⟨(some 8), .mov (.c (.rv (.one (.dat (.val (.bool true)))))), none⟩]) .ret) .skip)) (.seq (.reg [
    ⟨(some 42), .load true 3 (.t 9), none⟩,
    ⟨(some 43), .mov (.t 1), none⟩,
    ⟨(some 44), .mov (.t 2), none⟩,
    ⟨(some 45), .mov (.t 3), none⟩,
    ⟨(some 46), .call (.c (.rv (.one (.fn 18 [])))) [(.t 42), (.t 43), (.t 44), (.t 45)], none⟩,
    ⟨(some 41), .mov (.t 46), none⟩,
    ⟨(some 47), .ext (.t 41) 0, none⟩,
    ⟨(some 48), .ext (.t 41) 1, none⟩,
    ⟨(some 49), .ext (.t 41) 2, none⟩,
    ⟨(some 10), .alloc [.esl, .esl, .esl], none⟩,
    ⟨none, .store 3 (.t 10) (.t 47), none⟩,
    ⟨(some 11), .mov (.t 48), none⟩,
    ⟨(some 12), .mov (.t 49), none⟩]) (.seq (.seq (.reg [
    ⟨(some 50), .mov (.t 12), none⟩,
    ⟨(some 51), .bin .neq (.t 50) (.c (.rv (.one (.dat (.val (.int .i64 (0))))))), none⟩]) (.cond (.t 51) (.seq (.reg [
    ⟨(some 52), .mov (.t 12), none⟩,
    ⟨(some 53), .bin .eql (.t 52) (.c (.rv (.one (.dat (.val (.int .i64 (15))))))), none⟩,
    ⟨(some 54), .mov (.t 53), none⟩,
    ⟨(some 55), .fadr 2 (.t 10), (some (54, true))⟩,
    ⟨(some 56), .load false 1 (.t 55), (some (54, true))⟩,
    ⟨(some 57), .len 1 (.t 56), (some (54, true))⟩,
    ⟨(some 58), .bin .eql (.t 57) (.c (.rv (.one (.dat (.val (.int .i64 (0))))))), (some (54, true))⟩,
    ⟨(some 59), .pick (.t 54) (.t 58) (.c (.rv (.one (.dat (.val (.bool false)))))), none⟩,
    ⟨(some 8), .mov (.t 59), none⟩]) .ret) .skip)) (.seq (.reg [
    ⟨(some 61), .fadr 2 (.t 10), none⟩,
    ⟨(some 62), .load false 1 (.t 61), none⟩,
    ⟨(some 63), .mov (.t 1), none⟩,
    ⟨(some 64), .idx 4 (.t 62) (.t 63), none⟩,
    ⟨(some 65), .fadr 3 (.t 64), none⟩,
    ⟨(some 66), .load false 1 (.t 65), none⟩,
    ⟨(some 67), .mov (.t 11), none⟩,
    ⟨(some 68), .call (.c (.rv (.one (.fn 12 [])))) [(.t 66), (.t 67)], none⟩,
    ⟨(some 60), .mov (.t 68), none⟩,
    ⟨(some 69), .ext (.t 60) 0, none⟩,
    ⟨(some 70), .ext (.t 60) 1, none⟩,
    ⟨(some 13), .alloc [(.dat (.val (.int .i64 (0)))), (.dat (.val (.int .i64 (0))))], none⟩,
    ⟨none, .store 2 (.t 13) (.t 69), none⟩,
    ⟨(some 14), .mov (.t 70), none⟩]) (.seq (.seq (.reg [
    ⟨(some 72), .fadr 2 (.t 9), none⟩,
    ⟨(some 73), .load false 1 (.t 72), none⟩,
    ⟨(some 74), .mov (.t 1), none⟩,
    ⟨(some 75), .idx 4 (.t 73) (.t 74), none⟩,
    ⟨(some 76), .fadr 3 (.t 75), none⟩,
    ⟨(some 77), .load false 1 (.t 76), none⟩,
    ⟨(some 78), .mov (.t 11), none⟩,
    ⟨(some 79), .call (.c (.rv (.one (.fn 12 [])))) [(.t 77), (.t 78)], none⟩,
    ⟨(some 71), .mov (.t 79), none⟩,
    ⟨(some 80), .ext (.t 71) 0, none⟩,
    ⟨(some 81), .ext (.t 71) 1, none⟩,
    ⟨(some 15), .alloc [(.dat (.val (.int .i64 (0)))), (.dat (.val (.int .i64 (0))))], none⟩,
    ⟨none, .store 2 (.t 15) (.t 80), none⟩,
    ⟨(some 16), .mov (.t 81), none⟩]) (.seq (.reg [
    ⟨(some 82), .mov (.t 16), none⟩,
    ⟨(some 83), .bin .eql (.t 82) (.c (.rv (.one (.dat (.val (.int .i64 (0))))))), none⟩,
    ⟨(some 84), .mov (.t 83), none⟩,
    ⟨(some 85), .mov (.t 14), (some (84, false))⟩,
    ⟨(some 86), .bin .neq (.t 85) (.c (.rv (.one (.dat (.val (.int .i64 (0))))))), (some (84, false))⟩,
    ⟨(some 87), .pick (.t 84) (.c (.rv (.one (.dat (.val (.bool true)))))) (.t 86), none⟩,
    ⟨(some 88), .mov (.t 87), none⟩,
    ⟨(some 89), .fadr 1 (.t 13), (some (88, false))⟩,
    ⟨(some 90), .load false 1 (.t 89), (some (88, false))⟩,
    ⟨(some 91), .mov (.t 3), (some (88, false))⟩,
    ⟨(some 92), .bin .neq (.t 90) (.t 91), (some (88, false))⟩,
    ⟨(some 93), .pick (.t 88) (.c (.rv (.one (.dat (.val (.bool true)))))) (.t 92), none⟩,
    ⟨(some 94), .mov (.t 93), none⟩,
    ⟨(some 95), .fadr 0 (.t 13), (some (94, false))⟩,
    ⟨(some 96), .load false 1 (.t 95), (some (94, false))⟩,
    ⟨(some 97), .bin .lss (.t 96) (.c (.rv (.one (.dat (.val (.int .i64 (0))))))), (some (94, false))⟩,
    ⟨(some 98), .pick (.t 94) (.c (.rv (.one (.dat (.val (.bool true)))))) (.t 97), none⟩,
    ⟨(some 99), .mov (.t 98), none⟩,
    ⟨(some 100), .fadr 0 (.t 13), (some (99, false))⟩,
    ⟨(some 101), .load false 1 (.t 100), (some (99, false))⟩,
    ⟨(some 102), .fadr 1 (.t 10), (some (99, false))⟩,
    ⟨(some 103), .load false 1 (.t 102), (some (99, false))⟩,
    ⟨(some 104), .len 1 (.t 103), (some (99, false))⟩,
    ⟨(some 105), .bin .geq (.t 101) (.t 104), (some (99, false))⟩,
    ⟨(some 106), .pick (.t 99) (.c (.rv (.one (.dat (.val (.bool true)))))) (.t 105), none⟩,
    ⟨(some 107), .mov (.t 106), none⟩,
    ⟨(some 108), .fadr 1 (.t 10), (some (107, false))⟩,
    ⟨(some 109), .load false 1 (.t 108), (some (107, false))⟩,
    ⟨(some 110), .fadr 0 (.t 13), (some (107, false))⟩,
    ⟨(some 111), .load false 1 (.t 110), (some (107, false))⟩,
    ⟨(some 112), .idx 2 (.t 109) (.t 111), (some (107, false))⟩,
    ⟨(some 113), .load true 2 (.t 112), (some (107, false))⟩,
    ⟨(some 114), .mov (.t 2), (some (107, false))⟩,
    ⟨(some 115), .build [(.dat (.val (.int .i64 (0)))), (.dat (.val (.int .i64 (0))))] [(0, 1, (.t 114))], (some (107, false))⟩,
    ⟨(some 116), .eqa true [.i, .i] (.t 113) (.t 115), (some (107, false))⟩,
    ⟨(some 117), .pick (.t 107) (.c (.rv (.one (.dat (.val (.bool true)))))) (.t 116), none⟩]) (.cond (.t 117) (.seq (.reg [
    ⟨(some 8), .mov (.c (.rv (.one (.dat (.val (.bool false)))))), none⟩]) .ret) .skip))) (.seq (.reg [
    ⟨(some 118), .fadr 0 (.t 13), none⟩,
    ⟨(some 119), .load false 1 (.t 118), none⟩,
    ⟨(some 120), .fadr 1 (.t 9), none⟩,
    ⟨(some 121), .load false 1 (.t 120), none⟩,
    ⟨(some 122), .len 1 (.t 121), none⟩,
    ⟨(some 123), .bin .geq (.t 119) (.t 122), none⟩,
    ⟨(some 124), .mov (.t 123), none⟩,
    ⟨(some 125), .fadr 1 (.t 9), (some (124, false))⟩,
    ⟨(some 126), .load false 1 (.t 125), (some (124, false))⟩,
    ⟨(some 127), .fadr 0 (.t 13), (some (124, false))⟩,
    ⟨(some 128), .load false 1 (.t 127), (some (124, false))⟩,
    ⟨(some 129), .idx 2 (.t 126) (.t 128), (some (124, false))⟩,
    ⟨(some 130), .fadr 0 (.t 129), (some (124, false))⟩,
    ⟨(some 131), .load false 1 (.t 130), (some (124, false))⟩,
    ⟨(some 132), .bin .lss (.t 131) (.c (.rv (.one (.dat (.val (.int .i64 (0))))))), (some (124, false))⟩,
    ⟨(some 133), .pick (.t 124) (.c (.rv (.one (.dat (.val (.bool true)))))) (.t 132), none⟩,
    ⟨(some 8), .mov (.t 133), none⟩]) .ret)))))))))⟩
/-! the law ProcsOpened -/
theorem l5 : lowF Try.prog Try.f5 = some c5 := by kernel_rfl
theorem putL_has {S : List Sl3} (h : ∀ s, s ∈ S → s.has = true) (i : Nat) {rts : Int} (h0 : 0 ≤ rts) (h1 : rts ≤ 4095) : putL S (i : Nat) rts = if S.length ≥ 10 then (([] : List Sl3), (0 : Int), (15 : Int)) else (S ++ [Sl3.mk true ((i : Nat) : Int) rts], ((S.length : Nat) : Int), (0 : Int)) := by
  have hr : Tb.rightB rts = true := by unfold Tb.rightB; simp [h0, h1]
  have hf : (S.map toT).findIdx? (fun s => !s.has) = none := by
    rw [List.findIdx?_eq_none_iff]
    intro x hx
    obtain ⟨s, hs, rfl⟩ := List.mem_map.1 hx
    show (!s.has) = false
    rw [h s hs]; rfl
  have hp : Tb.putS (S.map toT) ⟨(i : Nat), rts⟩ = if S.length ≥ 10 then (([] : List Tb.Slot), (0 : Int), (15 : Int)) else (S.map toT ++ [Tb.Slot.mk true (Tb.Cap.mk ((i : Nat) : Int) rts)], ((S.length : Nat) : Int), (0 : Int)) := by
    unfold Tb.putS
    rw [if_neg (by rw [hr]; simp), hf]
    simp only [List.length_map]
  unfold putL
  rw [hp]
  by_cases h10 : S.length ≥ 10
  · rw [if_pos h10, if_pos h10]; rfl
  · rw [if_neg h10, if_neg h10]
    simp only [List.map_append, List.map_map, List.map_cons, List.map_nil]
    rw [show ofT ∘ toT = id from rfl, List.map_id]
    rfl
theorem tget_ok (S : List Sl3) (fd : Int) {m : Mem} {K : CV → Mem → Prop} (h : K (.tup [(Tb.getS (S.map toT) fd).1.rv, iRV (Tb.getS (S.map toT) fd).2]) m) : ACall Try.prog 12 [sl3V S, vInt .i64 fd] m K := by
  have := Tb.rget_ok (S.map toT) fd (m := m) (K := K) h
  have e : Tb.slotsV (S.map toT) = sl3V S := by
    show CV.rv (.one (.dat (Tb.slotsD (S.map toT)))) = _
    rw [slotsD_eq]; rfl
  rw [e] at this
  exact this
theorem tget_new (S : List Sl3) (o r : Int) : Tb.getS ((S ++ [Sl3.mk true o r]).map toT) ((S.length : Nat) : Int) = (Tb.Cap.mk o r, 0) := by
  unfold Tb.getS
  rw [if_pos (by omega), show ((S.length : Nat) : Int).toNat = S.length from rfl, List.getElem?_map, List.getElem?_append_right (Nat.le_refl _)]
  simp [toT]
theorem tget_none (S : List Sl3) : Tb.getS (S.map toT) ((S.length : Nat) : Int) = (Tb.Cap.mk 0 0, 6) := by
  unfold Tb.getS
  rw [if_pos (by omega), show ((S.length : Nat) : Int).toNat = S.length from rfl, List.getElem?_eq_none (by simp)]
theorem setOp_spec (ops : List Opn) (o : Opn) : (setOp ops (openI ops) o)[openI ops]? = some o ∧ openI ops < (setOp ops (openI ops) o).length ∧ openI ops ≤ ops.length ∧ (∀ h : openI ops < ops.length, ops[openI ops].obj < 0) := by
  unfold openI
  cases h : opF ops with
  | none =>
    simp only [Option.getD_none]
    refine ⟨?_, ?_, Nat.le_refl _, fun hh => absurd hh (Nat.lt_irrefl _)⟩
    · rw [setOp, if_pos rfl]; simp
    · rw [setOp, if_pos rfl]; simp
  | some i =>
    have hi := opF_lt h
    have hs := (List.findIdx?_eq_some_iff_getElem.1 h).2.1
    simp only [Option.getD_some]
    refine ⟨?_, ?_, Nat.le_of_lt hi, fun _ => by simpa using hs⟩
    · rw [setOp, if_neg (by omega)]; simp [hi]
    · rw [setOp, if_neg (by omega)]; simpa using hi
set_option maxRecDepth 100000 in
set_option maxHeartbeats 16000000 in
theorem popened_body (b : List Int) (hb : BYb b) (p obj st : Int) : body Try.prog c5 [.rv (.one (.dat (.sl 1 (byD b)))), vInt .i64 p, vInt .i64 obj, vInt .i64 st] [] (fun r m => r = vBool true) := by
  refine alive10_ok ?_
  refine build_ok b hb fun l op ps hgk => ?_
  refine fsweep_ok ⟨l, op, ps⟩ hgk.sz fun x hx hxz => ?_
  obtain ⟨k, hke, hk⟩ := swk_ok hgk hx hxz
  rw [hke]
  clear hke hx hxz hgk
  have hkr := hk.kr
  have hlp := hkr.lp
  have hlo := hkr.lo
  refine plive_ok k.l k.ops k.ps p ?_
  refine bB_split (fun h1 => ?_) (fun h1 => ?_)
  · exact rfl
  have h1 : liveB k.ps p = true := by simpa using h1
  obtain ⟨n, rfl, hn, hln⟩ := live_yes h1
  refine is_ok k.l obj 0 ?_
  refine bB_split (fun h2 => ?_) (fun h2 => ?_)
  · exact rfl
  refine bB_dec (fun h3 => ?_) (fun h3 => ?_)
  · exact rfl
  refine bB_dec (fun h4 => ?_) (fun h4 => ?_)
  · exact rfl
  have h3 : ¬ st < 0 := h3
  have h4 : ¬ st > 4095 := h4
  refine opened_ok k hkr n hn obj st ?_
  have hsl := hkr.sl _ (List.getElem_mem hn)
  have hhas := hk.has _ (List.getElem_mem hn)
  have hsa : slotsAt k.ps n = k.ps[n].slots := by rw [slotsAt, List.getElem?_eq_getElem hn]
  have hput := putL_has hhas (openI k.ops) (rts := st) (by omega) (by omega)
  by_cases hfull : (opF k.ops = none ∧ k.ops.length ≥ 60)
  · have he : openedS k n obj st = (nilK, 0, 15) := by rw [openedS, if_pos hfull]
    rw [he]
    exact rfl
  by_cases h10 : k.ps[n].slots.length ≥ 10
  · have he : openedS k n obj st = (nilK, 0, 15) := by
      rw [openedS, if_neg hfull, hsa, hput, if_pos h10]; rfl
    rw [he]
    exact rfl
  have he : openedS k n obj st = (Kr.mk k.l (setOp k.ops (openI k.ops) ⟨obj, 0⟩) (setSl k.ps n (k.ps[n].slots ++ [Sl3.mk true ((openI k.ops : Nat) : Int) st])), ((k.ps[n].slots.length : Nat) : Int), (0 : Int)) := by
    rw [openedS, if_neg hfull, hsa, hput, if_neg h10]; rfl
  rw [he]
  have hSl : setSl k.ps n (k.ps[n].slots ++ [Sl3.mk true ((openI k.ops : Nat) : Int) st]) = k.ps.set n { k.ps[n] with slots := k.ps[n].slots ++ [Sl3.mk true ((openI k.ops : Nat) : Int) st] } := by rw [setSl, List.getElem?_eq_getElem hn]
  rw [hSl]
  generalize hP : k.ps.set n { k.ps[n] with slots := k.ps[n].slots ++ [Sl3.mk true ((openI k.ops : Nat) : Int) st] } = P
  have hPl : P.length = k.ps.length := by rw [← hP, List.length_set]
  have hnP : n < P.length := by omega
  have hPn : P[n] = { k.ps[n] with slots := k.ps[n].slots ++ [Sl3.mk true ((openI k.ops : Nat) : Int) st] } := by subst hP; simp
  have hgP := prc_get hnP
  rw [hPn] at hgP
  have hg := prc_get hn
  obtain ⟨hO1, hO2, hO3, hO4⟩ := setOp_spec k.ops ⟨obj, 0⟩
  generalize setOp k.ops (openI k.ops) ⟨obj, 0⟩ = O at hO1 hO2
  generalize openI k.ops = i at hO1 hO2 hO3 hO4 hgP
  generalize k.ps[n] = y at hg hgP hsl hhas
  refine ok_some hgP ?_
  refine tget_ok _ _ ?_
  rw [tget_new]
  refine ok_some hg ?_
  refine tget_ok _ _ ?_
  rw [tget_none]
  refine bB_no (by simp) ?_
  refine bB_dec (fun h5 => ?_) (fun h5 => ?_)
  · exfalso
    have h5 : (i : Int) ≥ ((O.map Opn.enc).length : Int) := h5
    rw [List.length_map] at h5
    omega
  have hgO : getZ (O.map Opn.enc) (i : Nat) = some [.val (.int .i64 obj), .val (.int .i64 0)] := by
    rw [getZ_nat, List.getElem?_map, hO1]; rfl
  refine ok_some hgO ?_
  refine bB_no (by simp) ?_
  refine bB_dec (fun h6 => ?_) (fun h6 => ?_)
  · exact rfl
  have hlt : i < k.ops.length := by
    have h6 : ¬ (i : Int) ≥ ((k.ops.map Opn.enc).length : Int) := h6
    rw [List.length_map] at h6
    omega
  refine ok_some (opn_get hlt) ?_
  show vBool (decide (k.ops[i].obj < 0)) = vBool true
  rw [decide_eq_true (hO4 hlt)]
set_option maxRecDepth 100000 in
theorem popened_ok (b : List Int) (hb : BYb b) (p obj st : Int) : ACall Try.prog 5 [.rv (.one (.dat (.sl 1 (byD b)))), vInt .i64 p, vInt .i64 obj, vInt .i64 st] [] (fun r m => r = vBool true) :=
  acall_body Try.func5 l5 rfl (Nat.le_of_ble_eq_true rfl) (popened_body b hb p obj st)


end Go.Proofs.Ytjofmgkcllffnaa
