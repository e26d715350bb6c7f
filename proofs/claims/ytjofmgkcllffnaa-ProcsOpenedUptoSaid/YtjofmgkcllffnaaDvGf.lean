import Derived.Test.YtjofmgkcllffnaaAmZ2
import Derived.Test.YtjofmgkcllffnaaDvGe
import Derived.Test.YtjofmgkcllffnaaAmY
set_option linter.unusedVariables false
set_option linter.unusedSimpArgs false
namespace Go.Proofs.Ytjofmgkcllffnaa
open Go.AM Go.ChangeShapes Go.WideShapes Go.ChangeAt Go.RowKit
/-! Sweep of the document: behind the rounds -/
def U171 : LC := sndS (sndS c8.code)
def U22 : LC := sndS U171
def U201 : LC := sndS U22
def U222 : LC := sndS U201
def U238 : LC := sndS U222
def U263 : LC := sndS U238
def Y171 : LC := unG (fstS U171)
def Y201 : LC := unG (fstS U201)
def Y222 : LC := unG (fstS U222)
def Y238 : LC := unG (fstS U238)
def Y263 : LC := unG (fstS U263)
def minNat (n len : Nat) : Nat := if (len : Int) < (n : Int) then len else n
theorem minNat_le (n len : Nat) : minNat n len ≤ len := by unfold minNat; split <;> omega
theorem minNat_int (n len : Nat) : (if (len : Int) < (n : Int) then (len : Int) else (n : Int)) = ((minNat n len : Nat) : Int) := by unfold minNat; split <;> rfl
/-- a kernel cut -/
def cutK (b : Kx) (n o p : Nat) : CV := kernV (b.l.take (minNat n b.l.length)) (b.ops.take o) (b.ps.take (minNat p b.ps.length))
def EK21 (Q : CV → Prop) : Ex → St → Prop := endK Try.prog c8.res fun r m => ∃ c, Q c ∧ FrzV m r c
theorem gh171 : fstS U171 = .ghost Y171 := rfl
theorem gh201 : fstS U201 = .ghost Y201 := rfl
theorem gh222 : fstS U222 = .ghost Y222 := rfl
theorem gh238 : fstS U238 = .ghost Y238 := rfl
theorem gh263 : fstS U263 = .ghost Y263 := rfl
theorem frzCut (b : Kx) (n o p : Nat) {m : Mem} (h2 : m[2]? = some (.row 9 (dRows (b.l.map Obj.enc)))) (h3 : m[3]? = some (.row 2 (dRows (b.ops.map Opn.enc)))) (h4 : m[4]? = some (.row 4 (dRows (b.ps.map Prc.enc)))) :
    FrzV m (.rv (.agg [.row 2 9 0 (some (minNat n b.l.length)), .row 3 2 0 (some o), .row 4 4 0 (some (minNat p b.ps.length))])) (cutK b n o p) := by
  have e2 := FrzC.rowD h2 0 (some (minNat n b.l.length))
  have e3 := FrzC.rowD h3 0 (some o)
  have e4 := FrzC.rowD h4 0 (some (minNat p b.ps.length))
  rw [show subL (b.l.map Obj.enc) 0 (some (minNat n b.l.length)) = (b.l.take (minNat n b.l.length)).map Obj.enc from List.map_take.symm] at e2
  rw [show subL (b.ops.map Opn.enc) 0 (some o) = (b.ops.take o).map Opn.enc from List.map_take.symm] at e3
  rw [show subL (b.ps.map Prc.enc) 0 (some (minNat p b.ps.length)) = (b.ps.take (minNat p b.ps.length)).map Prc.enc from List.map_take.symm] at e4
  refine .rv (.agg rfl fun i c c' h h' => ?_)
  match i, h, h' with
  | 0, h, h' => cases h; cases h'; exact e2
  | 1, h, h' => cases h; cases h'; exact e3
  | 2, h, h' => cases h; cases h'; exact e4
  | k + 3, h, h' => simp at h
def eN (n o p : Nat) : List CV := mkE 284 [(1, p0 0), (2, p0 1), (22, vInt .i64 (n : Nat)), (23, vInt .i64 (o : Nat)), (24, vInt .i64 (p : Nat))]
set_option maxRecDepth 100000 in
set_option maxHeartbeats 16000000 in
theorem t263 (b : Kx) (n o p : Nat) (ho : o ≤ b.ops.length) (Q : CV → Prop) (hQ : Q (cutK b n o p)) :
    aw Try.prog 0 Y263 (seqK (aw Try.prog 0 (sndS U263)) (EK21 Q)) ⟨eN n o p, rowsM b⟩ := by
  have hlO : (dRows (b.l.map Obj.enc)).length = b.l.length := by rw [dRows_len, List.length_map]
  have hlP : (dRows (b.ps.map Prc.enc)).length = b.ps.length := by rw [dRows_len, List.length_map]
  have hlQ : (dRows (b.ops.map Opn.enc)).length = b.ops.length := by rw [dRows_len, List.length_map]
  have nO : natX (vInt .i64 (if (((dRows (b.l.map Obj.enc)).length : Nat) : Int) < (n : Int) then (((dRows (b.l.map Obj.enc)).length : Nat) : Int) else (n : Int))) = some (minNat n b.l.length) := by
    rw [hlO, minNat_int]; rfl
  have nP : natX (vInt .i64 (if (((dRows (b.ps.map Prc.enc)).length : Nat) : Int) < (p : Int) then (((dRows (b.ps.map Prc.enc)).length : Nat) : Int) else (p : Int))) = some (minNat p b.ps.length) := by
    rw [hlP, minNat_int]; rfl
  have hQb : (Nat.ble 0 o && Nat.ble o ((dRows (b.ops.map Opn.enc)).length - 0)) = true := by simp [Nat.ble_eq, hlQ]; omega
  have hOb : (Nat.ble 0 (minNat n b.l.length) && Nat.ble (minNat n b.l.length) ((dRows (b.l.map Obj.enc)).length - 0)) = true := by simp [Nat.ble_eq, hlO]; exact minNat_le _ _
  have hPb : (Nat.ble 0 (minNat p b.ps.length) && Nat.ble (minNat p b.ps.length) ((dRows (b.ps.map Prc.enc)).length - 0)) = true := by simp [Nat.ble_eq, hlP]; exact minNat_le _ _
  refine bB_yes hQb ?_
  refine ⟨?_, ?_⟩
  · refine ⟨⟨rfl, rfl, rfl, bB_yes hQb rfl, rfl, rfl, trivial⟩, ?_⟩
    refine ok_some nO ?_
    refine bB_yes hOb ?_
    refine ⟨⟨ok_some nO (bB_yes hOb rfl), rfl, bB_yes hQb rfl, rfl, rfl, rfl, rfl, trivial⟩, ?_⟩
    refine ok_some nP ?_
    refine bB_yes hPb ?_
    refine ⟨trivial, ?_⟩
    refine ⟨_, hQ, ?_⟩
    exact frzCut b n o p rfl rfl rfl
  · refine ⟨⟨rfl, bB_yes hQb rfl, rfl, rfl, rfl, rfl, trivial⟩, ?_⟩
    refine ok_some nP ?_
    refine bB_yes hPb ?_
    refine ⟨⟨ok_some nP (bB_yes hPb rfl), rfl, rfl, rfl, bB_yes hQb rfl, rfl, rfl, trivial⟩, ?_⟩
    refine ok_some nO ?_
    refine bB_yes hOb ?_
    refine ⟨trivial, ?_⟩
    refine ⟨_, hQ, ?_⟩
    exact frzCut b n o p rfl rfl rfl

/-! Sweep of the document: where the kernel is cut -/
theorem kx_idx {α : Type} {f : α → List Dt} {l : List α} {n : Nat} (h : n < l.length) : idxZ (n : Int) (lenOf (dRows (l.map f)).length 0 none) = some n := idxZ_nat (by show n < (dRows (l.map f)).length; rw [dRows_len, List.length_map]; exact h)
theorem kx_lt {α : Type} {f : α → List Dt} {l : List α} {k : Nat} (h : (k : Int) < (((dRows (l.map f)).length : Nat) : Int)) : k < l.length := by
  rw [dRows_len, List.length_map] at h; omega
theorem kx_ge {α : Type} {f : α → List Dt} {l : List α} {k : Nat} (h : ¬ (k : Int) < (((dRows (l.map f)).length : Nat) : Int)) : l.length ≤ k := by
  rw [dRows_len, List.length_map] at h; omega
def cutN {α : Type} (f : Nat → Nat → α → Nat) (n0 : Nat) (xs : List α) : Nat → Nat
  | 0 => n0
  | k + 1 => match xs[k]? with
    | some x => f (cutN f n0 xs k) k x
    | none => cutN f n0 xs k
theorem cutN_succ {α : Type} {f : Nat → Nat → α → Nat} {n0 : Nat} {xs : List α} {k : Nat} (h : k < xs.length) : cutN f n0 xs (k + 1) = f (cutN f n0 xs k) k xs[k] := by
  rw [cutN, List.getElem?_eq_getElem h]
def nF (n i : Nat) (o : Obj) : Nat := if o.kind ≠ 0 ∧ n ≤ i then i + 1 else n
def oF (n i : Nat) (o : Opn) : Nat := if 0 ≤ o.obj then i + 1 else n
def kpP (l : List Obj) (i : Nat) (p : Prc) : Bool := decide (0 < i) && (p.live || l.any (heldB (i : Nat)))
def pF (l : List Obj) (n i : Nat) (p : Prc) : Nat := if kpP l i p = true then i + 1 else n
theorem oF_le {n i : Nat} {o : Opn} (h : n ≤ i) : oF n i o ≤ i + 1 := by unfold oF; split <;> omega
theorem cutN_oF (xs : List Opn) : ∀ k, cutN oF 0 xs k ≤ k
  | 0 => Nat.le_refl 0
  | k + 1 => by
    have ih := cutN_oF xs k
    rw [cutN]
    split
    · exact oF_le ih
    · omega
theorem rowsVw (b : Kx) (n : Nat) (R : Mem) : MemVw (sg [0, 1, 2, 3, 4] n) (nxC (.row 2 9 0 none) (.row 3 2 0 none) (.row 4 4 0 none) :: esl3 :: .row 9 (dRows (b.l.map Obj.enc)) :: .row 2 (dRows (b.ops.map Opn.enc)) :: .row 4 (dRows (b.ps.map Prc.enc)) :: R) (fun k => memN [] k = true) 0 (rowsM b) :=
  .put (notF rfl) rfl (.eq rfl (by simp [nxC])) (.put (notF rfl) rfl (.eq rfl (by simp [esl3])) (.put (notF rfl) rfl (.rowDE rfl) (.put (notF rfl) rfl (.rowDE rfl) (.put (notF rfl) rfl (.rowDE rfl) (.nil _)))))
set_option maxRecDepth 100000 in
set_option maxHeartbeats 16000000 in
theorem t238 (b : Kx) (hb : KSz b) (n o : Nat) (ho : o ≤ b.ops.length) (Q : CV → Prop) (hQ : Q (cutK b n o (cutN (pF b.l) 1 b.ps b.ps.length))) :
    aw Try.prog 0 Y238 (seqK (aw Try.prog 0 U263) (EK21 Q)) ⟨eN n o 1, rowsM b⟩ := by
  have hpl := hb.hp
  refine loop_keep (fun i => i ≤ b.ps.length) [1, 2, 22, 23, 240] (fun i => [(24, vInt .i64 (cutN (pF b.l) 1 b.ps i : Nat)), (241, vInt .i64 (i : Nat))]) (fun _ => rowsM b) (fun i => b.ps.length - i) 0 (Nat.zero_le _) ?_ (fun i hi => ?_)
  · refine View.of 5 [0, 1, 2, 3, 4] [] rfl rfl rfl rfl rfl rfl ?_ (rowsVw b 5 [])
    repeat (first | exact .nil | refine .junk ?_ | refine .eq rfl ?_)
  have hi : i ≤ b.ps.length := hi
  refine bB_dec (fun h => ?_) (fun h => ?_)
  · have hlt : i < b.ps.length := kx_lt h
    have hs := cutN_succ (f := pF b.l) (n0 := 1) hlt
    have yes : kpP b.l i b.ps[i] = true → cutN (pF b.l) 1 b.ps (i + 1) = i + 1 := fun hk => by rw [hs, pF, hk]; rfl
    have no : kpP b.l i b.ps[i] = false → cutN (pF b.l) 1 b.ps (i + 1) = cutN (pF b.l) 1 b.ps i := fun hk => by rw [hs, pF, hk]; rfl
    have hm : b.ps.length - (i + 1) < b.ps.length - i := by omega
    refine bB_dec (fun h0 => ?_) (fun h0 => ?_)
    · have h0 : 0 < i := by
        have h0 : (i : Int) > 0 := h0
        omega
      refine ok_some (kx_idx hlt) ?_
      refine ok_some (dRows_nth' Prc.enc b.ps hlt) ?_
      refine bB_split (fun hlv => ?_) (fun hlv => ?_)
      · refine ⟨i + 1, hlt, hm, View.of 5 [0, 1, 2, 3, 4] [] rfl rfl rfl rfl rfl rfl ?_ (rowsVw b 5 [])⟩
        rw [yes (by unfold kpP; rw [hlv, decide_eq_true h0]; rfl)]
        repeat (first | exact .nil | refine .junk ?_ | refine .put (.ren (next_i64 (by omega)).symm) ?_ | refine .eq rfl ?_)
      · refine rheld_row b.l hb.hl (i : Nat) (id := 2) rfl ?_
        refine bB_split (fun hh => ?_) (fun hh => ?_)
        · refine ⟨i + 1, hlt, hm, View.of 5 [0, 1, 2, 3, 4] [] rfl rfl rfl rfl rfl rfl ?_ (rowsVw b 5 [])⟩
          rw [yes (by unfold kpP; rw [hlv, decide_eq_true h0, hh]; rfl)]
          repeat (first | exact .nil | refine .junk ?_ | refine .put (.ren (next_i64 (by omega)).symm) ?_ | refine .eq rfl ?_)
        · refine ⟨i + 1, hlt, hm, View.of 5 [0, 1, 2, 3, 4] [] rfl rfl rfl rfl rfl rfl ?_ (rowsVw b 5 [])⟩
          rw [no (by unfold kpP; rw [hlv, decide_eq_true h0, hh]; rfl)]
          repeat (first | exact .nil | refine .junk ?_ | refine .put (.ren (next_i64 (by omega)).symm) ?_ | refine .eq rfl ?_)
    · have h0 : ¬ 0 < i := by
        have h0 : ¬ (i : Int) > 0 := h0
        omega
      refine ⟨i + 1, hlt, hm, View.of 5 [0, 1, 2, 3, 4] [] rfl rfl rfl rfl rfl rfl ?_ (rowsVw b 5 [])⟩
      rw [no (by unfold kpP; rw [decide_eq_false h0]; rfl)]
      repeat (first | exact .nil | refine .junk ?_ | refine .put (.ren (next_i64 (by omega)).symm) ?_ | refine .eq rfl ?_)
  · have h9 := kx_ge h
    have hie : i = b.ps.length := by omega
    subst hie
    refine ⟨_, View.of 5 [0, 1, 2, 3, 4] [] rfl rfl rfl rfl rfl rfl ?_ (rowsVw b 5 []), t263 b n o _ ho Q hQ⟩
    repeat (first | exact .nil | refine .junk ?_ | refine .eq rfl ?_)

set_option maxRecDepth 100000 in
set_option maxHeartbeats 16000000 in
theorem t222 (b : Kx) (hb : KSz b) (n : Nat) (Q : CV → Prop) (hQ : Q (cutK b n (cutN oF 0 b.ops b.ops.length) (cutN (pF b.l) 1 b.ps b.ps.length))) :
    aw Try.prog 0 Y222 (seqK (aw Try.prog 0 U238) (EK21 Q)) ⟨eN n 0 1, rowsM b⟩ := by
  have hol := hb.ho
  refine loop_keep (fun i => i ≤ b.ops.length) [1, 2, 22, 24, 224] (fun i => [(23, vInt .i64 (cutN oF 0 b.ops i : Nat)), (225, vInt .i64 (i : Nat))]) (fun _ => rowsM b) (fun i => b.ops.length - i) 0 (Nat.zero_le _) ?_ (fun i hi => ?_)
  · refine View.of 5 [0, 1, 2, 3, 4] [] rfl rfl rfl rfl rfl rfl ?_ (rowsVw b 5 [])
    repeat (first | exact .nil | refine .junk ?_ | refine .eq rfl ?_)
  have hi : i ≤ b.ops.length := hi
  refine bB_dec (fun h => ?_) (fun h => ?_)
  · have hlt : i < b.ops.length := kx_lt h
    have hs := cutN_succ (f := oF) (n0 := 0) hlt
    have hm : b.ops.length - (i + 1) < b.ops.length - i := by omega
    refine ok_some (kx_idx hlt) ?_
    refine ok_some (dRows_nth' Opn.enc b.ops hlt) ?_
    refine bB_dec (fun h0 => ?_) (fun h0 => ?_)
    · refine ⟨i + 1, hlt, hm, View.of 5 [0, 1, 2, 3, 4] [] rfl rfl rfl rfl rfl rfl ?_ (rowsVw b 5 [])⟩
      rw [show cutN oF 0 b.ops (i + 1) = i + 1 from by rw [hs, oF, if_pos h0]]
      repeat (first | exact .nil | refine .junk ?_ | refine .put (.ren (next_i64 (by omega)).symm) ?_ | refine .eq rfl ?_)
    · refine ⟨i + 1, hlt, hm, View.of 5 [0, 1, 2, 3, 4] [] rfl rfl rfl rfl rfl rfl ?_ (rowsVw b 5 [])⟩
      rw [show cutN oF 0 b.ops (i + 1) = cutN oF 0 b.ops i from by rw [hs, oF, if_neg h0]]
      repeat (first | exact .nil | refine .junk ?_ | refine .put (.ren (next_i64 (by omega)).symm) ?_ | refine .eq rfl ?_)
  · have h9 := kx_ge h
    have hie : i = b.ops.length := by omega
    subst hie
    refine ⟨_, View.of 5 [0, 1, 2, 3, 4] [] rfl rfl rfl rfl rfl rfl ?_ (rowsVw b 5 []), t238 b hb n _ (cutN_oF _ _) Q hQ⟩
    repeat (first | exact .nil | refine .junk ?_ | refine .eq rfl ?_)
set_option maxRecDepth 100000 in
set_option maxHeartbeats 16000000 in
theorem t201 (b : Kx) (hb : KSz b) (Q : CV → Prop) (hQ : Q (cutK b (cutN nF 1 b.l b.l.length) (cutN oF 0 b.ops b.ops.length) (cutN (pF b.l) 1 b.ps b.ps.length))) :
    aw Try.prog 0 Y201 (seqK (aw Try.prog 0 U222) (EK21 Q)) ⟨eN 1 0 1, rowsM b⟩ := by
  have hol := hb.hl
  refine loop_keep (fun i => i ≤ b.l.length) [1, 2, 23, 24, 203] (fun i => [(22, vInt .i64 (cutN nF 1 b.l i : Nat)), (204, vInt .i64 (i : Nat))]) (fun _ => rowsM b) (fun i => b.l.length - i) 0 (Nat.zero_le _) ?_ (fun i hi => ?_)
  · refine View.of 5 [0, 1, 2, 3, 4] [] rfl rfl rfl rfl rfl rfl ?_ (rowsVw b 5 [])
    repeat (first | exact .nil | refine .junk ?_ | refine .eq rfl ?_)
  have hi : i ≤ b.l.length := hi
  refine bB_dec (fun h => ?_) (fun h => ?_)
  · have hlt : i < b.l.length := kx_lt h
    have hs := cutN_succ (f := nF) (n0 := 1) hlt
    have hm : b.l.length - (i + 1) < b.l.length - i := by omega
    refine ok_some (kx_idx hlt) ?_
    refine ok_some (dRows_nth' Obj.enc b.l hlt) ?_
    refine bB_split (fun hk => ?_) (fun hk => ?_)
    · have hk : b.l[i].kind ≠ 0 := by simpa using hk
      refine bB_dec (fun h0 => ?_) (fun h0 => ?_)
      · have h0 : cutN nF 1 b.l i ≤ i := by
          have h0 : (i : Int) ≥ ((cutN nF 1 b.l i : Nat) : Int) := h0
          omega
        refine ⟨i + 1, hlt, hm, View.of 5 [0, 1, 2, 3, 4] [] rfl rfl rfl rfl rfl rfl ?_ (rowsVw b 5 [])⟩
        rw [show cutN nF 1 b.l (i + 1) = i + 1 from by rw [hs, nF, if_pos ⟨hk, h0⟩]]
        repeat (first | exact .nil | refine .junk ?_ | refine .put (.ren (next_i64 (by omega)).symm) ?_ | refine .eq rfl ?_)
      · have h0 : ¬ cutN nF 1 b.l i ≤ i := by
          have h0 : ¬ (i : Int) ≥ ((cutN nF 1 b.l i : Nat) : Int) := h0
          omega
        refine ⟨i + 1, hlt, hm, View.of 5 [0, 1, 2, 3, 4] [] rfl rfl rfl rfl rfl rfl ?_ (rowsVw b 5 [])⟩
        rw [show cutN nF 1 b.l (i + 1) = cutN nF 1 b.l i from by rw [hs, nF, if_neg (fun h => h0 h.2)]]
        repeat (first | exact .nil | refine .junk ?_ | refine .put (.ren (next_i64 (by omega)).symm) ?_ | refine .eq rfl ?_)
    · have hk : b.l[i].kind = 0 := by simpa using hk
      refine ⟨i + 1, hlt, hm, View.of 5 [0, 1, 2, 3, 4] [] rfl rfl rfl rfl rfl rfl ?_ (rowsVw b 5 [])⟩
      rw [show cutN nF 1 b.l (i + 1) = cutN nF 1 b.l i from by rw [hs, nF, if_neg (fun h => h.1 hk)]]
      repeat (first | exact .nil | refine .junk ?_ | refine .put (.ren (next_i64 (by omega)).symm) ?_ | refine .eq rfl ?_)
  · have h9 := kx_ge h
    have hie : i = b.l.length := by omega
    subst hie
    refine ⟨_, View.of 5 [0, 1, 2, 3, 4] [] rfl rfl rfl rfl rfl rfl ?_ (rowsVw b 5 []), t222 b hb _ Q hQ⟩
    repeat (first | exact .nil | refine .junk ?_ | refine .eq rfl ?_)

/-! Sweep of the document: processes that nothing holds -/
def clB (l : List Obj) (i : Nat) (p : Prc) : Bool := decide (0 < i) && (!p.live && !(l.any (heldB (i : Nat))))
def clF (l : List Obj) (i : Nat) (p : Prc) : Prc := if clB l i p = true then zeroP else p
def clK (b : Kx) : Kx := ⟨b.l, b.ops, b.ps.mapIdx (clF b.l)⟩
theorem KSz.cl {b : Kx} (h : KSz b) : KSz (clK b) := by
  refine ⟨h.g, h.hl, h.ho, ?_, fun p hp => ?_⟩
  · show (b.ps.mapIdx (clF b.l)).length ≤ _
    rw [List.length_mapIdx]; exact h.hp
  · obtain ⟨i, x, hx, rfl⟩ := mem_mapIdx hp
    unfold clF
    split
    · exact Nat.zero_le _
    · exact h.hs x (List.mem_of_getElem? hx)
def clG (l : List Obj) (k t : Nat) (p : Prc) : Prc := if t < k then clF l t p else p
theorem clG_end {b : Kx} {P : List Prc} (h : Pt b.ps P (clG b.l b.ps.length)) : P = (clK b).ps := by
  refine List.ext_getElem? fun i => ?_
  rw [show (clK b).ps = b.ps.mapIdx (clF b.l) from rfl, List.getElem?_mapIdx]
  cases hx : b.ps[i]? with
  | none =>
    have := List.getElem?_eq_none_iff.1 hx
    exact List.getElem?_eq_none_iff.2 (by rw [h.1]; exact this)
  | some x =>
    have := (List.getElem?_eq_some_iff.1 hx).1
    rw [h.2 i x hx, clG, if_pos this]
    rfl
structure StC where
  i : Nat
  P : List Prc
/-- what Sweep gives -/
def swK (b : Kx) : CV := cutK (clK b) (cutN nF 1 b.l b.l.length) (cutN oF 0 b.ops b.ops.length) (cutN (pF b.l) 1 (clK b).ps (clK b).ps.length)
theorem rowsVw2 (l : List Obj) (ops : List Opn) (P : List Prc) (n : Nat) (R : Mem) : MemVw (sg [0, 1, 2, 3, 4] n) (nxC (.row 2 9 0 none) (.row 3 2 0 none) (.row 4 4 0 none) :: esl3 :: .row 9 (dRows (l.map Obj.enc)) :: .row 2 (dRows (ops.map Opn.enc)) :: .row 4 (dRows (P.map Prc.enc)) :: R) (fun k => memN [] k = true) 0 (rowsM ⟨l, ops, P⟩) :=
  .put (notF rfl) rfl (.eq rfl (by simp [nxC])) (.put (notF rfl) rfl (.eq rfl (by simp [esl3])) (.put (notF rfl) rfl (.rowDE rfl) (.put (notF rfl) rfl (.rowDE rfl) (.put (notF rfl) rfl (.rowDE rfl) (.nil _)))))
set_option maxRecDepth 100000 in
set_option maxHeartbeats 16000000 in
theorem t171 (b : Kx) (hb : KSz b) (Q : CV → Prop) (hQ : Q (swK b)) :
    aw Try.prog 0 Y171 (seqK (aw Try.prog 0 U22) (EK21 Q)) ⟨mkE 284 [(1, p0 0), (2, p0 1)], rowsM b⟩ := by
  have hpl := hb.hp
  refine loop_keep (fun s : StC => s.i ≤ b.ps.length ∧ Pt b.ps s.P (clG b.l s.i)) [1, 2, 173] (fun s => [(174, vInt .i64 (s.i : Nat))]) (fun s => rowsM ⟨b.l, b.ops, s.P⟩) (fun s => b.ps.length - s.i) ⟨0, b.ps⟩ ⟨Nat.zero_le _, (Pt.refl b.ps).congr fun t o _ => by simp [clG]⟩ ?_ (fun s hJ => ?_)
  · refine View.of 5 [0, 1, 2, 3, 4] [] rfl rfl rfl rfl rfl rfl ?_ (rowsVw b 5 [])
    repeat (first | exact .nil | refine .junk ?_ | refine .eq rfl ?_)
  obtain ⟨i, P⟩ := s
  obtain ⟨hi, hP⟩ := hJ
  have hi : i ≤ b.ps.length := hi
  have hP : Pt b.ps P (clG b.l i) := hP
  have hPl := hP.1
  refine bB_dec (fun h => ?_) (fun h => ?_)
  · have hlt : i < b.ps.length := kx_lt h
    obtain ⟨hpP, hPp⟩ := hP.at hlt
    have hPp : P[i] = b.ps[i] := by rw [hPp]; simp [clG]
    have hm : b.ps.length - (i + 1) < b.ps.length - i := by omega
    have hno : ∀ t o, t ≠ i → clG b.l (i + 1) t o = clG b.l i t o := fun t o ht => by
      unfold clG
      rcases Nat.lt_or_ge t i with h1 | h1
      · rw [if_pos h1, if_pos (by omega)]
      · rw [if_neg (by omega), if_neg (by omega)]
    have hskip : clB b.l i b.ps[i] = false → Pt b.ps P (clG b.l (i + 1)) := fun hf => hP.congr fun t o hto => by
      by_cases htp : t = i
      · subst htp
        rw [List.getElem?_eq_getElem hlt] at hto
        cases hto
        rw [clG, clG, if_neg (by omega), if_pos (by omega), clF, hf]
        rfl
      · exact (hno t o htp).symm
    refine bB_dec (fun h0 => ?_) (fun h0 => ?_)
    · have h0 : 0 < i := by
        have h0 : (i : Int) > 0 := h0
        omega
      refine ok_some (kx_idx hpP) ?_
      refine ok_some (dRows_nth' Prc.enc P hpP) ?_
      refine bB_split (fun hlv => ?_) (fun hlv => ?_)
      · rw [hPp] at hlv
        refine rheld_row b.l hb.hl (i : Nat) (id := 2) rfl ?_
        refine bB_split (fun hh => ?_) (fun hh => ?_)
        · have he : clB b.l i b.ps[i] = true := by
            unfold clB
            rw [hlv, hh]
            simp [h0]
          refine ok_some (kx_idx hpP) ?_
          refine ok_some (dRows_nth' Prc.enc P hpP) ?_
          have hs := hP.set (j := i) (x := zeroP) (g := clG b.l (i + 1)) (fun o hto => by
            rw [List.getElem?_eq_getElem hlt] at hto
            cases hto
            rw [clG, if_pos (by omega), clF, he]; rfl) (fun t o htp _ => hno t o htp)
          refine ⟨⟨i + 1, P.set i zeroP⟩, ⟨hlt, hs⟩, hm, View.of 5 [0, 1, 2, 3, 4] [] rfl rfl rfl rfl rfl rfl ?_ ?_⟩
          · repeat (first | exact .nil | refine .junk ?_ | refine .put (.ren (next_i64 (by omega)).symm) ?_ | refine .eq rfl ?_)
          · exact .put (notF rfl) rfl (.eq rfl (by simp [nxC])) (.put (notF rfl) rfl (.eq rfl (by simp [esl3])) (.put (notF rfl) rfl (.rowDE rfl) (.put (notF rfl) rfl (.rowDE rfl) (.put (notF rfl) rfl (rowZP P i) (.nil _)))))
        · refine ⟨⟨i + 1, P⟩, ⟨hlt, hskip (by unfold clB; rw [hh]; simp)⟩, hm, View.of 5 [0, 1, 2, 3, 4] [] rfl rfl rfl rfl rfl rfl ?_ (rowsVw2 b.l b.ops P 5 [])⟩
          repeat (first | exact .nil | refine .junk ?_ | refine .put (.ren (next_i64 (by omega)).symm) ?_ | refine .eq rfl ?_)
      · rw [hPp] at hlv
        refine ⟨⟨i + 1, P⟩, ⟨hlt, hskip (by unfold clB; rw [hlv]; simp)⟩, hm, View.of 5 [0, 1, 2, 3, 4] [] rfl rfl rfl rfl rfl rfl ?_ (rowsVw2 b.l b.ops P 5 [])⟩
        repeat (first | exact .nil | refine .junk ?_ | refine .put (.ren (next_i64 (by omega)).symm) ?_ | refine .eq rfl ?_)
    · have h0 : ¬ 0 < i := by
        have h0 : ¬ (i : Int) > 0 := h0
        omega
      refine ⟨⟨i + 1, P⟩, ⟨hlt, hskip (by unfold clB; rw [decide_eq_false h0]; rfl)⟩, hm, View.of 5 [0, 1, 2, 3, 4] [] rfl rfl rfl rfl rfl rfl ?_ (rowsVw2 b.l b.ops P 5 [])⟩
      repeat (first | exact .nil | refine .junk ?_ | refine .put (.ren (next_i64 (by omega)).symm) ?_ | refine .eq rfl ?_)
  · have h9 : b.ps.length ≤ i := kx_ge h
    have hie : i = b.ps.length := by omega
    subst hie
    have hPe := clG_end hP
    have hfin : aw Try.prog 0 Y201 (seqK (aw Try.prog 0 U222) (EK21 Q)) ⟨eN 1 0 1, rowsM ⟨b.l, b.ops, P⟩⟩ := by
      rw [hPe]
      exact t201 (clK b) hb.cl Q hQ
    refine ⟨_, View.of 5 [0, 1, 2, 3, 4] [] rfl rfl rfl rfl rfl rfl ?_ (rowsVw2 b.l b.ops P 5 []), hfin⟩
    repeat (first | exact .nil | refine .junk ?_ | refine .eq rfl ?_)

/-! the document's Sweep, whole -/
def E21 (k : Kx) : List CV := setN (setN (app2 [kernV k.l k.ops k.ps] (repl 283 .undef)) 1 (p0 0)) 2 (p0 1)
set_option maxRecDepth 100000 in
set_option maxHeartbeats 16000000 in
theorem loop21u (k : Kx) (hk : KSz k) (K : Ex → St → Prop) (hK : ∀ b, RFin k b → KSz b → KEnd b K) :
    aw Try.prog 0 G21 K ⟨E21 k, [kB k.l k.ops k.ps, esl3]⟩ := by
  refine loop_keep (fun a : StO => KSz a.k ∧ (a.more = true → RTo k a.k) ∧ (a.more = false → RFin k a.k)) [1, 2] (fun a => [(3, vBool a.more)]) hdM (fun a => if a.more then flives a.k.ps + 1 else 0) ⟨k, true⟩ ⟨hk, fun _ => .refl, fun h => by cases h⟩ ?_ (fun a hJ => ?_)
  · refine View.of 2 [0, 1] [] rfl rfl rfl rfl rfl rfl ?_ ?_
    · repeat (first | exact .nil | refine .junk ?_ | refine .eq rfl ?_)
    · exact .put (notF rfl) rfl (.eq rfl (by simp [kB])) (.put (notF rfl) rfl (.eq rfl (by simp [esl3])) (.nil _))
  obtain ⟨a, more⟩ := a
  obtain ⟨hz, hT, hF⟩ := hJ
  cases more with
  | false =>
    refine hK a (hF rfl) hz _ _ (View.of 5 [0, 1, 2, 3, 4] [] rfl rfl rfl rfl rfl rfl ?_ ?_)
    · repeat (first | exact .nil | refine .junk ?_ | refine .eq rfl ?_)
    · exact .put (notF rfl) rfl (.eq rfl (by simp [nxC])) (.put (notF rfl) rfl (.eq rfl (by simp [esl3])) (.put (notF rfl) rfl (.rowDE rfl) (.put (notF rfl) rfl (.rowDE rfl) (.put (notF rfl) rfl (.rowDE rfl) (.nil _)))))
  | true =>
    have hT := hT rfl
    refine rB21 a hz _ fun L hL Q hQ e m hv => ?_
    generalize hb : (⟨rlS L a.l, ropS Q a.ops, rpS (rlS L a.l) a.ps⟩ : Kx) = b
    have hs : ∀ x, x = rpM (rlS L a.l) a.ps a.ps.length → RStep a b x := fun x hx => by
      subst hb
      exact ⟨⟨L, Q, hL, hQ, rfl, rfl⟩, rfl, hx⟩
    cases hm : rpM (rlS L a.l) a.ps a.ps.length with
    | false =>
      rw [hm] at hv
      have s := hs false hm.symm
      refine ⟨⟨b, false⟩, ⟨s.sz hz, (fun h => by cases h), fun _ => ⟨a, hT, s⟩⟩, (show 0 < flives a.ps + 1 by omega), ?_⟩
      subst hb
      exact hv
    | true =>
      rw [hm] at hv
      have s := hs true hm.symm
      refine ⟨⟨b, true⟩, ⟨s.sz hz, fun _ => .step hT s, fun h => by cases h⟩, (show flives b.ps + 1 < flives a.ps + 1 by have := s.less; omega), ?_⟩
      subst hb
      refine View.trans hv (View.of 5 [0, 1] [2, 3, 4] rfl rfl rfl rfl rfl rfl ?_ (thaw ⟨rlS L a.l, ropS Q a.ops, rpS (rlS L a.l) a.ps⟩))
      repeat (first | exact .nil | refine .junk ?_ | refine .eq rfl ?_)
set_option maxRecDepth 100000 in
set_option maxHeartbeats 16000000 in
theorem fsweep_body (k : Kx) (hk : KSz k) : body Try.prog c8 [kernV k.l k.ops k.ps] [] (fun r m => ∃ c, (∃ b, RFin k b ∧ KSz b ∧ c = swK b) ∧ FrzV m r c) :=
  loop21u k hk _ fun b hf hz e m hv => ⟨_, hv, t171 b hz (fun c => ∃ b, RFin k b ∧ KSz b ∧ c = swK b) ⟨b, hf, hz, rfl⟩⟩
set_option maxRecDepth 100000 in
/-- the document's Sweep, exactly -/
theorem fsweep_ok (k : Kx) (hk : KSz k) {m : Mem} {K : CV → Mem → Prop} (h : ∀ b, RFin k b → KSz b → K (swK b) m) : ACall Try.prog 8 [kernV k.l k.ops k.ps] m K := by
  refine acall_frame (K0 := fun r m => ∃ c, (∃ b, RFin k b ∧ KSz b ∧ c = swK b) ∧ FrzV m r c) (acall_body_g Try.func8 l8 rfl (Nat.le_of_ble_eq_true rfl) (fsweep_body k hk)) (by simp [kernV, objsD, opnD, prcD, CV.isD, CC.isD, RV.isD]) fun r m1 hr => ?_
  obtain ⟨c, ⟨b, hf, hz, rfl⟩, hc⟩ := hr
  exact ⟨_, hc, h b hf hz⟩


end Go.Proofs.Ytjofmgkcllffnaa
