import Derived.Test.YtppecaflkpklfaaDoorAmZ2
import Derived.Test.YtppecaflkpklfaaDoorDvGb
import Derived.Test.YtppecaflkpklfaaDoorAmY
import Derived.Test.YtppecaflkpklfaaDoorDvGq
import Derived.Test.YtppecaflkpklfaaDoorDvGc
import Derived.Test.YtppecaflkpklfaaDoorDvGe
set_option linter.unusedVariables false
set_option linter.unusedSimpArgs false
namespace Go.Proofs.YtppecaflkpklfaaDoor
open Go.AM Go.ChangeShapes Go.WideShapes Go.ChangeAt Go.RowKit
def c36 : LF := ⟨49, [.tmp 6, .tmp 7], (.seq (.reg [
    ⟨(some 6), .mov (.c (.rv (.one (.dat (.val (.int .i64 (0))))))), none⟩,
    ⟨(some 7), .mov (.c (.rv (.one (.dat (.val (.bool false)))))), none⟩]) (.seq (.reg [
    ⟨(some 12), .mov (.t 0), none⟩,
    ⟨(some 13), .len 1 (.t 12), none⟩,
    ⟨(some 8), .mov (.t 13), none⟩]) (.seq (.reg [
    ⟨(some 14), .mov (.t 8), none⟩,
    ⟨(some 9), .mov (.c (.rv (.one (.dat (.val (.int .i64 (0))))))), none⟩,
    ⟨(some 10), .mov (.t 14), none⟩]) (.seq (.block 0 (.loop (.seq (.seq (.reg [
    ⟨(some 15), .mov (.t 9), none⟩,
    ⟨(some 16), .mov (.t 10), none⟩,
    ⟨(some 17), .bin .lss (.t 15) (.t 16), none⟩]) (.cond (.t 17) .skip (.exit 0))) (.block 1 (.seq (.reg [
    ⟨(some 18), .mov (.t 9), none⟩,
    ⟨(some 19), .mov (.t 10), none⟩,
    ⟨(some 20), .bin .add (.t 18) (.t 19), none⟩,
    ⟨(some 21), .conv .u64 (.t 20), none⟩,
    ⟨(some 22), .bin .shr (.t 21) (.c (.rv (.one (.dat (.val (.int .u64 (1))))))), none⟩,
    ⟨(some 23), .conv .i64 (.t 22), none⟩,
    ⟨(some 11), .mov (.t 23), none⟩]) (.seq (.reg [
    ⟨(some 24), .mov (.t 2), none⟩,
    ⟨(some 25), .mov (.t 0), none⟩,
    ⟨(some 26), .mov (.t 11), none⟩,
    ⟨(some 27), .idx 2 (.t 25) (.t 26), none⟩,
    ⟨(some 28), .load true 2 (.t 27), none⟩,
    ⟨(some 29), .mov (.t 1), none⟩,
    ⟨(some 30), .call (.t 24) [(.t 28), (.t 29)], none⟩,
    ⟨(some 31), .bin .lss (.t 30) (.c (.rv (.one (.dat (.val (.int .i64 (0))))))), none⟩]) (.cond (.t 31) (.reg [
    ⟨(some 32), .mov (.t 11), none⟩,
    ⟨(some 33), .bin .add (.t 32) (.c (.rv (.one (.dat (.val (.int .i64 (1))))))), none⟩,
    ⟨(some 9), .mov (.t 33), none⟩]) (.reg [
    ⟨(some 34), .mov (.t 11), none⟩,
    ⟨(some 10), .mov (.t 34), none⟩])))))))) (.seq (.reg [
    ⟨(some 35), .mov (.t 9), none⟩,
    ⟨(some 36), .mov (.t 9), none⟩,
    ⟨(some 37), .mov (.t 8), none⟩,
    ⟨(some 38), .bin .lss (.t 36) (.t 37), none⟩,
    ⟨(some 39), .mov (.t 38), none⟩,
    ⟨(some 40), .mov (.t 2), (some (39, true))⟩,
    ⟨(some 41), .mov (.t 0), (some (39, true))⟩,
    ⟨(some 42), .mov (.t 9), (some (39, true))⟩,
    ⟨(some 43), .idx 2 (.t 41) (.t 42), (some (39, true))⟩,
    ⟨(some 44), .load true 2 (.t 43), (some (39, true))⟩,
    ⟨(some 45), .mov (.t 1), (some (39, true))⟩,
    ⟨(some 46), .call (.t 40) [(.t 44), (.t 45)], (some (39, true))⟩,
    ⟨(some 47), .bin .eql (.t 46) (.c (.rv (.one (.dat (.val (.int .i64 (0))))))), (some (39, true))⟩,
    ⟨(some 48), .pick (.t 39) (.t 47) (.c (.rv (.one (.dat (.val (.bool false)))))), none⟩,
    ⟨(some 6), .mov (.t 35), none⟩,
    ⟨(some 7), .mov (.t 48), none⟩]) .ret)))))⟩
def c37 : LF := ⟨9, [.tmp 4], (.seq (.reg [
    ⟨(some 2), .box (.t 0), none⟩,
    ⟨(some 4), .mov (.c (.rv (.one (.dat (.val (.int .i64 (0))))))), none⟩]) (.seq (.reg [
    ⟨(some 5), .fadr 0 (.t 2), none⟩,
    ⟨(some 6), .load false 1 (.t 5), none⟩,
    ⟨(some 7), .mov (.t 1), none⟩,
    ⟨(some 8), .call (.c (.rv (.one (.fn 38 [])))) [(.t 6), (.t 7)], none⟩,
    ⟨(some 4), .mov (.t 8), none⟩]) .ret))⟩
def c38 : LF := ⟨20, [.tmp 4], (.seq (.reg [
    ⟨(some 4), .mov (.c (.rv (.one (.dat (.val (.int .i64 (0))))))), none⟩]) (.seq (.reg [
    ⟨(some 7), .mov (.t 0), none⟩,
    ⟨(some 8), .call (.c (.rv (.one (.fn 42 [])))) [(.t 7)], none⟩,
    ⟨(some 5), .mov (.t 8), none⟩]) (.seq (.reg [
    ⟨(some 9), .mov (.t 1), none⟩,
    ⟨(some 10), .call (.c (.rv (.one (.fn 42 [])))) [(.t 9)], none⟩,
    ⟨(some 6), .mov (.t 10), none⟩]) (.seq (.seq (.reg [
    ⟨(some 11), .mov (.t 5), none⟩]) (.cond (.t 11) (.seq (.seq (.reg [
    ⟨(some 12), .mov (.t 6), none⟩]) (.cond (.t 12) (.seq (.reg [
    ⟨(some 4), .mov (.c (.rv (.one (.dat (.val (.int .i64 (0))))))), none⟩]) .ret) .skip)) (.seq (.reg [
    ⟨(some 4), .mov (.c (.rv (.one (.dat (.val (.int .i64 (-1))))))), none⟩]) .ret)) .skip)) (.seq (.seq (.reg [
    ⟨(some 13), .mov (.t 6), none⟩]) (.cond (.t 13) (.seq (.reg [
    ⟨(some 4), .mov (.c (.rv (.one (.dat (.val (.int .i64 (1))))))), none⟩]) .ret) .skip)) (.seq (.seq (.reg [
    ⟨(some 14), .mov (.t 0), none⟩,
    ⟨(some 15), .mov (.t 1), none⟩,
    ⟨(some 16), .bin .lss (.t 14) (.t 15), none⟩]) (.cond (.t 16) (.seq (.reg [
    ⟨(some 4), .mov (.c (.rv (.one (.dat (.val (.int .i64 (-1))))))), none⟩]) .ret) .skip)) (.seq (.seq (.reg [
    ⟨(some 17), .mov (.t 0), none⟩,
    ⟨(some 18), .mov (.t 1), none⟩,
    ⟨(some 19), .bin .gtr (.t 17) (.t 18), none⟩]) (.cond (.t 19) (.seq (.reg [
    ⟨(some 4), .mov (.c (.rv (.one (.dat (.val (.int .i64 (1))))))), none⟩]) .ret) .skip)) (.seq (.reg [
    ⟨(some 4), .mov (.c (.rv (.one (.dat (.val (.int .i64 (0))))))), none⟩]) .ret))))))))⟩
def c42 : LF := ⟨6, [.tmp 2], (.seq (.reg [
    ⟨(some 2), .mov (.c (.rv (.one (.dat (.val (.bool false)))))), none⟩]) (.seq (.reg [
    ⟨(some 3), .mov (.t 0), none⟩,
    ⟨(some 4), .mov (.t 0), none⟩,
    ⟨(some 5), .bin .neq (.t 3) (.t 4), none⟩,
    ⟨(some 2), .mov (.t 5), none⟩]) .ret))⟩
/-! cmp.Compare, slices.BinarySearchFunc over entries: exactly -/
theorem l42 : lowF Tryd.prog Tryd.f42 = some c42 := by kernel_rfl
theorem l38 : lowF Tryd.prog Tryd.f38 = some c38 := by kernel_rfl
theorem l37 : lowF Tryd.prog Tryd.f37 = some c37 := by kernel_rfl
theorem l36 : lowF Tryd.prog Tryd.f36 = some c36 := by kernel_rfl
def ltB (a b : ByteArray) : Bool := Op.bytesLess a.toList b.toList
def gtB (a b : ByteArray) : Bool := !(Op.bytesLess a.toList b.toList || a.toList == b.toList)
def cmpB (a b : ByteArray) : Int := if ltB a b = true then -1 else if gtB a b = true then 1 else 0
set_option maxRecDepth 100000 in
theorem nan_body (a : ByteArray) : body Tryd.prog c42 [vStr a] [] (fun r m => r = vBool false) := by
  show vBool (!(a.toList == a.toList)) = vBool false
  simp
theorem nan_ok (a : ByteArray) {m : Mem} {K : CV → Mem → Prop} (h : K (vBool false) m) : ACall Tryd.prog 42 [vStr a] m K :=
  acall_val Tryd.func42 l42 rfl (Nat.le_of_ble_eq_true rfl) (nan_body a) rfl rfl h
set_option maxRecDepth 100000 in
theorem cmp_body (a b : ByteArray) : body Tryd.prog c38 [vStr a, vStr b] [] (fun r m => r = vInt .i64 (cmpB a b)) := by
  refine nan_ok a ?_
  refine nan_ok b ?_
  refine bB_split (fun h1 => ?_) (fun h1 => ?_)
  · show vInt _ _ = vInt _ _
    rw [cmpB, if_pos (show ltB a b = true from h1)]
  refine bB_split (fun h2 => ?_) (fun h2 => ?_)
  · show vInt _ _ = vInt _ _
    rw [cmpB, if_neg (by rw [show ltB a b = false from h1]; simp), if_pos (show gtB a b = true from h2)]
  · show vInt _ _ = vInt _ _
    rw [cmpB, if_neg (by rw [show ltB a b = false from h1]; simp), if_neg (by rw [show gtB a b = false from h2]; simp)]
theorem cmp_ok (a b : ByteArray) {m : Mem} {K : CV → Mem → Prop} (h : K (vInt .i64 (cmpB a b)) m) : ACall Tryd.prog 38 [vStr a, vStr b] m K :=
  acall_val Tryd.func38 l38 rfl (Nat.le_of_ble_eq_true rfl) (cmp_body a b) rfl rfl h
def entW (e : ByteArray × Int) : List Dt := [.val (.string e.1), .val (.int .i64 e.2)]
def entC (e : ByteArray × Int) : CV := .rv (.agg ((entW e).map .dat))
set_option maxRecDepth 100000 in
theorem clo32_body (e : ByteArray × Int) (s : ByteArray) : body Tryd.prog c37 [entC e, vStr s] [] (fun r m => r = vInt .i64 (cmpB e.1 s)) :=
  cmp_ok e.1 s rfl
theorem clo32 (e : ByteArray × Int) (s : ByteArray) {m : Mem} {K : CV → Mem → Prop} (h : K (vInt .i64 (cmpB e.1 s)) m) : ACall Tryd.prog 37 [entC e, vStr s] m K :=
  acall_val Tryd.func37 l37 rfl (Nat.le_of_ble_eq_true rfl) (clo32_body e s) rfl rfl h
/-- the search's place -/
def bsL (es : List (ByteArray × Int)) (s : ByteArray) : Nat → Nat → Nat → Nat
  | 0, i, _ => i
  | n + 1, i, j => if i < j then (match es[(i + j) / 2]? with
      | some e => if cmpB e.1 s < 0 then bsL es s n ((i + j) / 2 + 1) j else bsL es s n i ((i + j) / 2)
      | none => i) else i
def bsI (es : List (ByteArray × Int)) (s : ByteArray) : Nat := bsL es s es.length 0 es.length
def bsB (es : List (ByteArray × Int)) (s : ByteArray) : Bool := match es[bsI es s]? with | some e => cmpB e.1 s == 0 | none => false
structure StBs where
  i : Nat
  j : Nat
theorem ent_getW {es : List (ByteArray × Int)} {k : Nat} (h : k < es.length) : getZ (es.map entW) (k : Nat) = some [.val (.string es[k].1), .val (.int .i64 es[k].2)] := by
  rw [getZ_nat, List.getElem?_map, List.getElem?_eq_getElem h]; rfl
theorem half_i {i j : Nat} (h : i + j ≤ 4294967296) : IntKind.i64.wrap ((IntKind.u64.wrap (IntKind.i64.wrap ((i : Int) + (j : Int)))).fdiv (2 ^ (min (1 : Int).toNat IntKind.u64.bits))) = (((i + j) / 2 : Nat) : Int) := by
  rw [show (i : Int) + (j : Int) = ((i + j : Nat) : Int) by omega, wrapN (by omega)]
  have hu : IntKind.u64.wrap ((i + j : Nat) : Int) = ((i + j : Nat) : Int) := by
    simp only [IntKind.wrap, IntKind.bits, IntKind.signed]
    simp
    omega
  rw [hu, show (2 : Int) ^ (min (1 : Int).toNat IntKind.u64.bits) = ((2 : Nat) : Int) from rfl]
  rw [show (((i + j : Nat) : Int)).fdiv ((2 : Nat) : Int) = (((i + j) / 2 : Nat) : Int) by rw [Int.fdiv_eq_ediv_of_nonneg _ (by omega)]; exact (Int.natCast_ediv _ _).symm]
  rw [wrapN (by omega)]
set_option maxRecDepth 100000 in
set_option maxHeartbeats 8000000 in
theorem bs_body (es : List (ByteArray × Int)) (hl : es.length ≤ 2147483648) (s : ByteArray) (F : Nat) (hF : ∀ (e : ByteArray × Int) (m : Mem) (K : CV → Mem → Prop), K (vInt .i64 (cmpB e.1 s)) m → ACall Tryd.prog F [entC e, vStr s] m K) :
    body Tryd.prog c36 [slV 2 (es.map entW), vStr s, .rv (.one (.fn F []))] [] (fun r m => r = .tup [.one (.dat (.val (.int .i64 (bsI es s : Nat)))), .one (.dat (.val (.bool (bsB es s))))]) := by
  refine loop_keep (fun a : StBs => a.i ≤ a.j ∧ a.j ≤ es.length ∧ ∃ n, a.j - a.i ≤ n ∧ bsL es s n a.i a.j = bsI es s) [0, 1, 2] (fun a => [(8, vInt .i64 (es.length : Nat)), (9, vInt .i64 (a.i : Nat)), (10, vInt .i64 (a.j : Nat))]) (fun _ => []) (fun a => a.j - a.i) ⟨0, es.length⟩ ⟨Nat.zero_le _, Nat.le_refl _, es.length, by simp, rfl⟩ ?_ (fun a ha => ?_)
  · refine View.of 0 [] [] rfl rfl rfl rfl rfl rfl ?_ (.nil _)
    have hlen : vInt .i64 (((es.map entW).length : Nat) : Int) = vInt .i64 ((es.length : Nat) : Int) := by rw [List.length_map]
    repeat (first | exact .nil | refine .junk ?_ | refine .eq rfl ?_ | refine .eq hlen.symm ?_)
  obtain ⟨i, j⟩ := a
  obtain ⟨h1, h2, n, h3, h4⟩ := ha
  have h1 : i ≤ j := h1
  have h2 : j ≤ es.length := h2
  have h3 : j - i ≤ n := h3
  have h4 : bsL es s n i j = bsI es s := h4
  refine bB_dec (fun h => ?_) (fun h => ?_)
  · have hlt : i < j := by
      have h : (i : Int) < (j : Int) := h
      omega
    obtain ⟨n, rfl⟩ : ∃ n', n = n' + 1 := ⟨n - 1, by omega⟩
    have hh : (i + j) / 2 < es.length := by omega
    rw [bsL, if_pos hlt, List.getElem?_eq_getElem hh] at h4
    have hge : getZ (es.map entW) (IntKind.i64.wrap ((IntKind.u64.wrap (IntKind.i64.wrap ((i : Int) + (j : Int)))).fdiv (2 ^ (min (1 : Int).toNat IntKind.u64.bits)))) = some [.val (.string es[(i + j) / 2].1), .val (.int .i64 es[(i + j) / 2].2)] := by
      rw [half_i (by omega)]; exact ent_getW hh
    refine ok_some hge ?_
    refine hF es[(i + j) / 2] _ _ ?_
    refine bB_dec (fun h5 => ?_) (fun h5 => ?_)
    · have h5 : cmpB es[(i + j) / 2].1 s < 0 := h5
      simp only [] at h4
      rw [if_pos h5] at h4
      refine ⟨⟨(i + j) / 2 + 1, j⟩, ⟨by show (i + j) / 2 + 1 ≤ j; omega, h2, n, by show j - ((i + j) / 2 + 1) ≤ n; omega, h4⟩, (show j - ((i + j) / 2 + 1) < j - i by omega), View.of 0 [] [] rfl rfl rfl rfl rfl rfl ?_ (.nil _)⟩
      have e1 : vInt .i64 (IntKind.i64.wrap (IntKind.i64.wrap ((IntKind.u64.wrap (IntKind.i64.wrap ((i : Int) + (j : Int)))).fdiv (2 ^ (min (1 : Int).toNat IntKind.u64.bits))) + 1)) = vInt .i64 (((i + j) / 2 + 1 : Nat) : Int) := by
        rw [half_i (by omega), show (((i + j) / 2 : Nat) : Int) + 1 = (((i + j) / 2 + 1 : Nat) : Int) by omega, wrapN (by omega)]
      repeat (first | exact .nil | refine .junk ?_ | refine .eq rfl ?_ | refine .eq e1.symm ?_)
    · have h5 : ¬ cmpB es[(i + j) / 2].1 s < 0 := h5
      simp only [] at h4
      rw [if_neg h5] at h4
      refine ⟨⟨i, (i + j) / 2⟩, ⟨by show i ≤ (i + j) / 2; omega, by show (i + j) / 2 ≤ es.length; omega, n, by show (i + j) / 2 - i ≤ n; omega, h4⟩, (show (i + j) / 2 - i < j - i by omega), View.of 0 [] [] rfl rfl rfl rfl rfl rfl ?_ (.nil _)⟩
      have e1 : vInt .i64 (IntKind.i64.wrap ((IntKind.u64.wrap (IntKind.i64.wrap ((i : Int) + (j : Int)))).fdiv (2 ^ (min (1 : Int).toNat IntKind.u64.bits)))) = vInt .i64 (((i + j) / 2 : Nat) : Int) := by
        rw [half_i (by omega)]
      repeat (first | exact .nil | refine .junk ?_ | refine .eq rfl ?_ | refine .eq e1.symm ?_)
  · have hij : i = j := by
      have h : ¬ (i : Int) < (j : Int) := h
      omega
    subst hij
    have hI : bsI es s = i := by
      rw [← h4]
      cases n with
      | zero => rfl
      | succ n => rw [bsL, if_neg (Nat.lt_irrefl _)]
    rw [bsB, hI]
    refine bB_dec (fun h6 => ?_) (fun h6 => ?_)
    · have hlt : i < es.length := by
        have h6 : (i : Int) < (es.length : Int) := h6
        omega
      refine ok_some (ent_getW hlt) ?_
      refine hF es[i] _ _ ?_
      show CV.tup _ = CV.tup _
      rw [List.getElem?_eq_getElem hlt]
    · have hge : ¬ i < es.length := by
        have h6 : ¬ (i : Int) < (es.length : Int) := h6
        omega
      show CV.tup _ = CV.tup _
      rw [List.getElem?_eq_none (by omega)]
def bsR (es : List (ByteArray × Int)) (s : ByteArray) : CV := .tup [.one (.dat (.val (.int .i64 (bsI es s : Nat)))), .one (.dat (.val (.bool (bsB es s))))]
set_option maxRecDepth 100000 in
theorem bs_ok (es : List (ByteArray × Int)) (hl : es.length ≤ 2147483648) (s : ByteArray) (F : Nat) (hF : ∀ (e : ByteArray × Int) (m : Mem) (K : CV → Mem → Prop), K (vInt .i64 (cmpB e.1 s)) m → ACall Tryd.prog F [entC e, vStr s] m K) {m : Mem} {K : CV → Mem → Prop}
    (h : K (bsR es s) m) : ACall Tryd.prog 36 [slV 2 (es.map entW), vStr s, .rv (.one (.fn F []))] m K := by
  refine acall_frame (K0 := fun r _ => r = bsR es s) (acall_body Tryd.func36 l36 rfl (Nat.le_of_ble_eq_true rfl) (bs_body es hl s F hF)) (by simp [slV, vStr, CV.isD, CC.isD, RV.isD]) fun r m1 hr => ?_
  subst hr
  exact ⟨_, FrzV.self rfl, h⟩
/-- the same over a row that stays -/
theorem bs_row (es : List (ByteArray × Int)) (hl : es.length ≤ 2147483648) (s : ByteArray) (F : Nat) (hF : ∀ (e : ByteArray × Int) (m : Mem) (K : CV → Mem → Prop), K (vInt .i64 (cmpB e.1 s)) m → ACall Tryd.prog F [entC e, vStr s] m K) {m : Mem} {id : Nat} (hb : nth m id = some (.row 2 (dRows (es.map entW)))) {K : CV → Mem → Prop}
    (h : K (bsR es s) m) : ACall Tryd.prog 36 [.rv (.one (.row id 2 0 none)), vStr s, .rv (.one (.fn F []))] m K :=
  acall_ro [id] (args0 := [slV 2 (es.map entW), vStr s, .rv (.one (.fn F []))]) (bs_ok es hl s F hF (K := fun r _ => r = bsR es s) rfl) (.put (VwV.frz id (es.map entW) (by simp [memN]) hb) (.eq rfl (.eq rfl .nil))) fun r m1 hr => by
    subst hr
    exact ⟨rfl, h⟩

/-! what a path leads to: plain -/
def obZ : Ob := ⟨0, [], [], ⟨#[]⟩, 0, noD, 0, 0, 0⟩
def oAt (l : List Ob) (n : Nat) : Ob := (l[n]?).getD obZ
theorem oAt_eq {l : List Ob} {n : Nat} (h : n < l.length) : oAt l n = l[n] := by rw [oAt, List.getElem?_eq_getElem h]; rfl
structure R4 where
  obj : Int
  dir : Int
  name : Pth.Txt
  err : Int
def R4.no (e : Int) : R4 := ⟨0, 0, [], e⟩
def entsO (o : Ob) : List NE := o.entries.map unE
/-- what a name of a directory leads to -/
def fnd (l : List Ob) (at' : Nat) (w : Pth.Txt) : Int := findS (entsO (oAt l at')) (Pth.bysL w)
def upN (l : List Ob) (at' : Nat) : Nat := (oAt l at').up.toNat
def wk1 (l : List Ob) (base : Nat) (fence follow : Bool) (rec : Nat → List Pth.Txt → Nat → R4) : List Pth.Txt → Nat → R4
  | [], a => ⟨a, upN l a, [], 0⟩
  | w :: rest, a =>
    if (oAt l a).kind ≠ 2 then R4.no 11
    else if w = [46, 46] then (if fence = true ∧ a = base then R4.no 14 else wk1 l base fence follow rec rest (upN l a))
    else if fnd l a w < 0 then (if rest ≠ [] then R4.no 6 else ⟨-1, a, w, 0⟩)
    else if (oAt l (fnd l a w).toNat).kind = 3 ∧ (follow = true ∨ rest ≠ []) then rec a rest (fnd l a w).toNat
    else if rest = [] then ⟨fnd l a w, a, w, 0⟩
    else wk1 l base fence follow rec rest (fnd l a w).toNat
def tgt (l : List Ob) (k : Nat) : Pth.Txt := (oAt l k).target.data.toList
/-- behind a link -/
def lnk (l : List Ob) (fence : Bool) (wk : List Pth.Txt → Nat → R4) (a : Nat) (rest : List Pth.Txt) (k : Nat) : R4 :=
  if (Pth.splitS (tgt l k)).2.2 ≠ 0 then R4.no (Pth.splitS (tgt l k)).2.2
  else if (Pth.splitS (tgt l k)).2.1 = true ∧ fence = true then R4.no 14
  else wk ((Pth.splitS (tgt l k)).1 ++ rest) (if (Pth.splitS (tgt l k)).2.1 = true then 0 else a)
/-- n: how many links may be followed yet -/
def wkS (l : List Ob) (base : Nat) (fence follow : Bool) : Nat → List Pth.Txt → Nat → R4
  | 0 => wk1 l base fence follow fun _ _ _ => R4.no 13
  | n + 1 => wk1 l base fence follow (lnk l fence (wkS l base fence follow n))
/-- what a path leads to -/
def lookS (l : List Ob) (base : Int) (s : Pth.Txt) (fence follow : Bool) : R4 :=
  if isSB l base 0 = true then
    if (oAt l base.toNat).kind ≠ 2 then R4.no 11
    else if (Pth.splitS s).2.2 ≠ 0 then R4.no (Pth.splitS s).2.2
    else if (Pth.splitS s).2.1 = true ∧ fence = true then R4.no 14
    else wkS l base.toNat fence follow 6 (Pth.splitS s).1 (if (Pth.splitS s).2.1 = true then 0 else base.toNat)
  else R4.no 6
/-- a store in which one can look -/
structure LkOK (l : List Ob) : Prop where
  len : l.length ≤ 64
  pos : 0 < l.length
  en : ∀ o, o ∈ l → EntOK l.length o.kind o.entries
  ne : ∀ o, o ∈ l → o.entries.length ≤ 64
  up : ∀ o, o ∈ l → 0 ≤ o.up ∧ o.up < l.length
theorem LkOK.upN_lt {l : List Ob} (h : LkOK l) (n : Nat) : upN l n < l.length := by
  rw [upN, oAt]
  cases hn : l[n]? with
  | none => show (0 : Int).toNat < l.length; have := h.pos; simpa using this
  | some o => have := h.up o (List.mem_of_getElem? hn); show o.up.toNat < l.length; omega
theorem LkOK.upN_eq {l : List Ob} (h : LkOK l) {n : Nat} (hn : n < l.length) : l[n].up = (upN l n : Nat) := by
  rw [upN, oAt_eq hn]
  have := h.up _ (List.getElem_mem hn)
  omega
theorem LkOK.ents {l : List Ob} (h : LkOK l) (n : Nat) : Srt (entsO (oAt l n)) ∧ (∀ e, e ∈ entsO (oAt l n) → 0 ≤ e.2 ∧ e.2 < (l.length : Int)) ∧ (entsO (oAt l n)).length ≤ 64 ∧ ∀ hn : n < l.length, l[n].entries = (entsO (oAt l n)).map entD := by
  rw [oAt]
  cases hn : l[n]? with
  | none =>
    refine ⟨List.Pairwise.nil, by simp [entsO, obZ], by simp [entsO, obZ], fun h => ?_⟩
    rw [List.getElem?_eq_getElem h] at hn
    cases hn
  | some o =>
    obtain ⟨es, h1, h2, h3, h4⟩ := (h.en o (List.mem_of_getElem? hn)).ex
    have h5 : entsO o = es := by rw [entsO, h1, unE_map]
    show Srt (entsO o) ∧ (∀ e, e ∈ entsO o → _) ∧ (entsO o).length ≤ 64 ∧ ∀ hn : n < l.length, l[n].entries = (entsO o).map entD
    rw [h5]
    refine ⟨h2, h3, ?_, fun h => ?_⟩
    · have := h.ne o (List.mem_of_getElem? hn)
      rw [h1, List.length_map] at this
      exact this
    · rw [List.getElem?_eq_getElem h] at hn
      cases hn
      exact h1
theorem LkOK.fnd_lt {l : List Ob} (h : LkOK l) (n : Nat) (w : Pth.Txt) (hf : ¬ fnd l n w < 0) : ∃ k : Nat, fnd l n w = k ∧ k < l.length := by
  obtain ⟨_, h2, _, _⟩ := h.ents n
  rcases findS_OK (entsO (oAt l n)) (Pth.bysL w) with ⟨e, he, _, h3⟩ | ⟨h3, _⟩
  · obtain ⟨h4, h5⟩ := h2 e he
    exact ⟨e.2.toNat, by rw [fnd, h3]; omega, by omega⟩
  · rw [fnd, h3] at hf
    omega
/-! the search finds what the document's Find does -/
theorem cmp_lt {a b : ByteArray} : cmpB a b < 0 ↔ ltN a b := by
  unfold cmpB ltN
  by_cases h : ltB a b = true
  · rw [if_pos h]
    exact ⟨fun _ => h, fun _ => by omega⟩
  · rw [if_neg h]
    refine ⟨fun h2 => ?_, fun h2 => absurd h2 h⟩
    split at h2 <;> omega
theorem cmp_zero {a b : ByteArray} : cmpB a b = 0 ↔ a.toList = b.toList := by
  unfold cmpB
  by_cases h : ltB a b = true
  · rw [if_pos h]
    refine ⟨fun h2 => by omega, fun h2 => ?_⟩
    rw [ltB, h2, bl_irr] at h
    cases h
  · rw [if_neg h]
    rw [Bool.not_eq_true] at h
    by_cases h2 : gtB a b = true
    · rw [if_pos h2]
      refine ⟨fun h3 => by omega, fun h3 => ?_⟩
      unfold gtB at h2
      rw [h3] at h2
      simp at h2
    · rw [if_neg h2]
      refine ⟨fun _ => ?_, fun _ => rfl⟩
      unfold gtB at h2
      unfold ltB at h
      rw [h] at h2
      simpa using h2
/-- the place behind all that are less -/
theorem bsL_spec {es : List NE} (hs : Srt es) (s : ByteArray) : ∀ (n i j : Nat), j - i ≤ n → i ≤ j → j ≤ es.length → (∀ (k : Nat) e, k < i → es[k]? = some e → ltN e.1 s) → (∀ (k : Nat) e, j ≤ k → es[k]? = some e → ¬ ltN e.1 s) →
    bsL es s n i j ≤ es.length ∧ (∀ (k : Nat) e, k < bsL es s n i j → es[k]? = some e → ltN e.1 s) ∧ ∀ (k : Nat) e, bsL es s n i j ≤ k → es[k]? = some e → ¬ ltN e.1 s
  | 0, i, j, hn, hij, hj, h1, h2 => by
    have : i = j := by omega
    subst this
    exact ⟨hj, h1, h2⟩
  | n + 1, i, j, hn, hij, hj, h1, h2 => by
    rw [bsL]
    by_cases hlt : i < j
    · rw [if_pos hlt]
      have hh : (i + j) / 2 < es.length := by omega
      rw [List.getElem?_eq_getElem hh]
      simp only []
      have hp := List.pairwise_iff_getElem.1 hs
      by_cases hc : cmpB es[(i + j) / 2].1 s < 0
      · rw [if_pos hc]
        refine bsL_spec hs s n _ _ (by omega) (by omega) hj (fun k e hk he => ?_) h2
        have hcl := cmp_lt.1 hc
        obtain ⟨hkl, rfl⟩ := List.getElem?_eq_some_iff.1 he
        rcases Nat.lt_or_ge k ((i + j) / 2) with h3 | h3
        · exact bl_trans (hp k _ hkl hh h3) hcl
        · have : k = (i + j) / 2 := by omega
          subst this
          exact hcl
      · rw [if_neg hc]
        refine bsL_spec hs s n _ _ (by omega) (by omega) (by omega) h1 fun k e hk he hl => ?_
        have hcl : ¬ ltN es[(i + j) / 2].1 s := fun h => hc (cmp_lt.2 h)
        obtain ⟨hkl, rfl⟩ := List.getElem?_eq_some_iff.1 he
        rcases Nat.lt_or_ge ((i + j) / 2) k with h3 | h3
        · exact hcl (bl_trans (hp _ k hh hkl h3) hl)
        · have : k = (i + j) / 2 := by omega
          subst this
          exact hcl hl
    · rw [if_neg hlt]
      have : i = j := by omega
      subst this
      exact ⟨hj, h1, h2⟩
theorem bs_find {es : List NE} (hs : Srt es) (s : ByteArray) : FindOK es s (if bsB es s = true then (match es[bsI es s]? with | some e => e.2 | none => 0) else -1) := by
  obtain ⟨h0, h1, h2⟩ := bsL_spec hs s es.length 0 es.length (by omega) (by omega) (by omega) (fun k e hk => absurd hk (Nat.not_lt_zero k)) (fun k e hk he => by have := (List.getElem?_eq_some_iff.1 he).1; omega)
  have hI : bsL es s es.length 0 es.length = bsI es s := rfl
  rw [hI] at h0 h1 h2
  unfold bsB
  cases he : es[bsI es s]? with
  | none =>
    simp only []
    rw [if_neg (by simp)]
    refine .inr ⟨rfl, fun e hm heq => ?_⟩
    obtain ⟨k, hk⟩ := List.getElem?_of_mem hm
    have hkl := (List.getElem?_eq_some_iff.1 hk).1
    have : es.length ≤ bsI es s := List.getElem?_eq_none_iff.1 he
    have := h1 k e (by omega) hk
    rw [ltN, heq, bl_irr] at this
    cases this
  | some e =>
    simp only []
    by_cases hc : cmpB e.1 s = 0
    · rw [if_pos (by rw [hc]; rfl)]
      exact .inl ⟨e, List.mem_of_getElem? he, cmp_zero.1 hc, rfl⟩
    · rw [if_neg (by simpa using hc)]
      refine .inr ⟨rfl, fun e' hm heq => ?_⟩
      obtain ⟨k, hk⟩ := List.getElem?_of_mem hm
      obtain ⟨hkl, hke⟩ := List.getElem?_eq_some_iff.1 hk
      obtain ⟨hel, hee⟩ := List.getElem?_eq_some_iff.1 he
      rcases Nat.lt_trichotomy k (bsI es s) with h3 | h3 | h3
      · have := h1 k e' h3 hk
        rw [ltN, heq, bl_irr] at this
        cases this
      · subst h3
        rw [he] at hk
        cases hk
        exact hc (cmp_zero.2 heq)
      · have hp := List.pairwise_iff_getElem.1 hs _ k hel hkl h3
        rw [hee, hke] at hp
        have hnl := h2 _ e (Nat.le_refl _) he
        apply hnl
        rw [ltN, ← heq]
        exact hp

def c11 : LF := ⟨39, [.tmp 6], (.seq (.reg [
    ⟨(some 6), .mov (.c (.rv (.one (.dat (.val (.bool false)))))), none⟩]) (.seq (.seq (.reg [
    ⟨(some 7), .mov (.t 0), none⟩,
    ⟨(some 8), .len 1 (.t 7), none⟩,
    ⟨(some 9), .bin .add (.t 8) (.c (.rv (.one (.dat (.val (.int .i64 (1))))))), none⟩,
    ⟨(some 10), .mov (.c (.rv (.one (.dat (.val (.int .i64 (0))))))), none⟩]) (.block 0 (.loop (.seq (.reg [
    ⟨(some 11), .bin .lss (.t 10) (.t 9), none⟩]) (.seq (.cond (.t 11) .skip (.exit 0)) (.seq (.block 1 (.seq (.seq (.reg [
    ⟨(some 12), .mov (.t 1), none⟩,
    ⟨(some 13), .bin .lss (.t 12) (.c (.rv (.one (.dat (.val (.int .i64 (0))))))), none⟩,
    ⟨(some 14), .mov (.t 13), none⟩,
    ⟨(some 15), .mov (.t 1), (some (14, false))⟩,
    ⟨(some 16), .mov (.t 0), (some (14, false))⟩,
    ⟨(some 17), .len 1 (.t 16), (some (14, false))⟩,
    ⟨(some 18), .bin .geq (.t 15) (.t 17), (some (14, false))⟩,
    ⟨(some 19), .pick (.t 14) (.c (.rv (.one (.dat (.val (.bool true)))))) (.t 18), none⟩,
    ⟨(some 20), .mov (.t 19), none⟩,
    ⟨(some 21), .mov (.t 0), (some (20, false))⟩,
    ⟨(some 22), .mov (.t 1), (some (20, false))⟩,
    ⟨(some 23), .idx 9 (.t 21) (.t 22), (some (20, false))⟩,
    ⟨(some 24), .fadr 0 (.t 23), (some (20, false))⟩,
    ⟨(some 25), .load false 1 (.t 24), (some (20, false))⟩,
    ⟨(some 26), .bin .neq (.t 25) (.c (.rv (.one (.dat (.val (.int .i64 (2))))))), (some (20, false))⟩,
    ⟨(some 27), .pick (.t 20) (.c (.rv (.one (.dat (.val (.bool true)))))) (.t 26), none⟩]) (.cond (.t 27) (.seq (.reg [
    ⟨(some 6), .mov (.c (.rv (.one (.dat (.val (.bool false)))))), none⟩]) .ret) .skip)) (.seq (.seq (.reg [
    ⟨(some 28), .mov (.t 1), none⟩,
    ⟨(some 29), .mov (.t 2), none⟩,
    ⟨(some 30), .bin .eql (.t 28) (.t 29), none⟩]) (.cond (.t 30) (.seq (.reg [
    ⟨(some 6), .mov (.c (.rv (.one (.dat (.val (.bool true)))))), none⟩]) .ret) .skip)) (.seq (.seq (.reg [
    ⟨(some 31), .mov (.t 1), none⟩,
    ⟨(some 32), .bin .eql (.t 31) (.c (.rv (.one (.dat (.val (.int .i64 (0))))))), none⟩]) (.cond (.t 32) (.seq (.reg [
    ⟨(some 6), .mov (.c (.rv (.one (.dat (.val (.bool false)))))), none⟩]) .ret) .skip)) (.reg [
    ⟨(some 33), .mov (.t 0), none⟩,
    ⟨(some 34), .mov (.t 1), none⟩,
    ⟨(some 35), .idx 9 (.t 33) (.t 34), none⟩,
    ⟨(some 36), .fadr 8 (.t 35), none⟩,
    ⟨(some 37), .load false 1 (.t 36), none⟩,
    ⟨(some 1), .mov (.t 37), none⟩]))))) (.reg [
    ⟨(some 38), .bin .add (.t 10) (.c (.rv (.one (.dat (.val (.int .i64 (1))))))), none⟩,
    ⟨(some 10), .mov (.t 38), none⟩]))))))) (.seq (.reg [
    ⟨(some 6), .mov (.c (.rv (.one (.dat (.val (.bool false)))))), none⟩]) .ret)))⟩
def c12 : LF := ⟨30, [.tmp 6], (.seq (.reg [
    ⟨(some 6), .mov (.c (.rv (.one (.dat (.val (.bool false)))))), none⟩]) (.seq (.reg [
    ⟨(some 8), .mkmap, none⟩,
    ⟨(some 7), .mov (.t 8), none⟩]) (.seq (.block 0 (.loop (.seq (.seq (.reg [
    ⟨(some 9), .mov (.t 0), none⟩,
    ⟨(some 10), .mov (.t 1), none⟩,
    ⟨(some 11), .call (.c (.rv (.one (.fn 15 [])))) [(.t 9), (.t 10), (.c (.rv (.one (.dat (.val (.int .i64 (2)))))))], none⟩,
    ⟨(some 12), .mov (.t 11), none⟩,
    ⟨(some 13), .mov (.t 7), (some (12, true))⟩,
    ⟨(some 14), .mov (.t 1), (some (12, true))⟩,
    ⟨(some 15), .mget (.one (.dat (.val (.bool false)))) (.i .i64) (.t 13) (.t 14) false, (some (12, true))⟩,
    ⟨(some 16), .un .not (.t 15), (some (12, true))⟩,
    ⟨(some 17), .pick (.t 12) (.t 16) (.c (.rv (.one (.dat (.val (.bool false)))))), none⟩]) (.cond (.t 17) .skip (.exit 0))) (.block 1 (.seq (.seq (.reg [
    ⟨(some 18), .mov (.t 1), none⟩,
    ⟨(some 19), .mov (.t 2), none⟩,
    ⟨(some 20), .bin .eql (.t 18) (.t 19), none⟩]) (.cond (.t 20) (.seq (.reg [
    ⟨(some 6), .mov (.c (.rv (.one (.dat (.val (.bool true)))))), none⟩]) .ret) .skip)) (.seq (.reg [
    ⟨(some 21), .mov (.t 7), none⟩,
    ⟨(some 22), .mov (.t 1), none⟩,
    ⟨none, .mset (.i .i64) (.t 21) (.t 22) (.c (.rv (.one (.dat (.val (.bool true)))))), none⟩]) (.seq (.seq (.reg [
    ⟨(some 23), .mov (.t 1), none⟩,
    ⟨(some 24), .bin .eql (.t 23) (.c (.rv (.one (.dat (.val (.int .i64 (0))))))), none⟩]) (.cond (.t 24) (.seq (.reg [
    ⟨(some 6), .mov (.c (.rv (.one (.dat (.val (.bool false)))))), none⟩]) .ret) .skip)) (.reg [
    ⟨(some 25), .mov (.t 0), none⟩,
    ⟨(some 26), .mov (.t 1), none⟩,
    ⟨(some 27), .idx 9 (.t 25) (.t 26), none⟩,
    ⟨(some 28), .fadr 8 (.t 27), none⟩,
    ⟨(some 29), .load false 1 (.t 28), none⟩,
    ⟨(some 1), .mov (.t 29), none⟩])))))))) (.seq (.reg [
    ⟨(some 6), .mov (.c (.rv (.one (.dat (.val (.bool false)))))), none⟩]) .ret))))⟩
def c33 : LF := ⟨46, [.tmp 6], (.seq (.reg [
    ⟨(some 6), .mov (.c (.rv (.one (.dat (.val (.int .i64 (0))))))), none⟩]) (.seq (.seq (.reg [
    ⟨(some 9), .mov (.t 1), none⟩,
    ⟨(some 10), .bin .lss (.t 9) (.c (.rv (.one (.dat (.val (.int .i64 (0))))))), none⟩,
    ⟨(some 11), .mov (.t 10), none⟩,
    ⟨(some 12), .mov (.t 1), (some (11, false))⟩,
    ⟨(some 13), .mov (.t 0), (some (11, false))⟩,
    ⟨(some 14), .len 1 (.t 13), (some (11, false))⟩,
    ⟨(some 15), .bin .geq (.t 12) (.t 14), (some (11, false))⟩,
    ⟨(some 16), .pick (.t 11) (.c (.rv (.one (.dat (.val (.bool true)))))) (.t 15), none⟩,
    ⟨(some 17), .mov (.t 16), none⟩,
    ⟨(some 18), .mov (.t 0), (some (17, false))⟩,
    ⟨(some 19), .mov (.t 1), (some (17, false))⟩,
    ⟨(some 20), .idx 9 (.t 18) (.t 19), (some (17, false))⟩,
    ⟨(some 21), .fadr 0 (.t 20), (some (17, false))⟩,
    ⟨(some 22), .load false 1 (.t 21), (some (17, false))⟩,
    ⟨(some 23), .bin .neq (.t 22) (.c (.rv (.one (.dat (.val (.int .i64 (2))))))), (some (17, false))⟩,
    ⟨(some 24), .pick (.t 17) (.c (.rv (.one (.dat (.val (.bool true)))))) (.t 23), none⟩]) (.cond (.t 24) (.seq (.reg [
    ⟨(some 6), .mov (.c (.rv (.one (.dat (.val (.int .i64 (-1))))))), none⟩]) .ret) .skip)) (.seq (.reg [
    ⟨(some 26), .mov (.t 0), none⟩,
    ⟨(some 27), .mov (.t 1), none⟩,
    ⟨(some 28), .idx 9 (.t 26) (.t 27), none⟩,
    ⟨(some 29), .fadr 2 (.t 28), none⟩,
    ⟨(some 30), .load false 1 (.t 29), none⟩,
    ⟨(some 31), .mov (.t 2), none⟩,
    ⟨(some 32), .call (.c (.rv (.one (.fn 36 [])))) [(.t 30), (.t 31), (.c (.rv (.one (.fn 37 []))))], none⟩,
    ⟨(some 25), .mov (.t 32), none⟩,
    ⟨(some 33), .ext (.t 25) 0, none⟩,
    ⟨(some 34), .ext (.t 25) 1, none⟩,
    ⟨(some 7), .mov (.t 33), none⟩,
    ⟨(some 8), .mov (.t 34), none⟩]) (.seq (.seq (.reg [
    ⟨(some 35), .mov (.t 8), none⟩,
    ⟨(some 36), .un .not (.t 35), none⟩]) (.cond (.t 36) (.seq (.reg [
    ⟨(some 6), .mov (.c (.rv (.one (.dat (.val (.int .i64 (-1))))))), none⟩]) .ret) .skip)) (.seq (.reg [
    ⟨(some 37), .mov (.t 0), none⟩,
    ⟨(some 38), .mov (.t 1), none⟩,
    ⟨(some 39), .idx 9 (.t 37) (.t 38), none⟩,
    ⟨(some 40), .fadr 2 (.t 39), none⟩,
    ⟨(some 41), .load false 1 (.t 40), none⟩,
    ⟨(some 42), .mov (.t 7), none⟩,
    ⟨(some 43), .idx 2 (.t 41) (.t 42), none⟩,
    ⟨(some 44), .fadr 1 (.t 43), none⟩,
    ⟨(some 45), .load false 1 (.t 44), none⟩,
    ⟨(some 6), .mov (.t 45), none⟩]) .ret)))))⟩
/-! store.Find, the document's Find, Beneath (both): exactly -/
theorem l33 : lowF Tryd.prog Tryd.f33 = some c33 := by kernel_rfl
theorem l11 : lowF Tryd.prog Tryd.f11 = some c11 := by kernel_rfl
theorem l12 : lowF Tryd.prog Tryd.f12 = some c12 := by kernel_rfl
set_option maxRecDepth 100000 in
set_option maxHeartbeats 8000000 in
theorem sfind_body (l : List Ob) (ok : LkOK l) (dir : Nat) (hd : dir < l.length) (hk : l[dir].kind = 2) (w : Pth.Txt) : body Tryd.prog c33 [obsV l, vInt .i64 (dir : Nat), Pth.vT w] [] (fun r m => r = vInt .i64 (fnd l dir w)) := by
  obtain ⟨hsrt, hrng, hlen, hent⟩ := ok.ents dir
  have hent := hent hd
  have hf : fnd l dir w = (if bsB (entsO (oAt l dir)) (Pth.bysL w) = true then (match (entsO (oAt l dir))[bsI (entsO (oAt l dir)) (Pth.bysL w)]? with | some e => e.2 | none => 0) else -1) := findOK_uniq hsrt (findS_OK _ _) (bs_find hsrt _)
  rw [hf]
  have hg := obj_getB hd
  generalize entsO (oAt l dir) = es at *
  generalize l[dir] = o at hg hk hent
  obtain ⟨kind, data, entries, target, peer, queue, proc, links, up⟩ := o
  have hk : kind = 2 := hk
  have he : entries = es.map entW := hent
  subst hk he
  refine bB_dec (fun h1 => ?_) (fun h1 => ?_)
  · exfalso
    have h1 : (dir : Int) ≥ ((l.map Ob.enc).length : Int) := h1
    rw [List.length_map] at h1
    omega
  refine ok_some hg ?_
  refine ok_some hg ?_
  refine bs_ok es (by omega) (Pth.bysL w) 37 (fun e m K h => clo32 e (Pth.bysL w) h) ?_
  refine bB_split (fun h2 => ?_) (fun h2 => ?_)
  · have h2 : bsB es (Pth.bysL w) = false := by simpa using h2
    show vInt _ _ = vInt _ _
    rw [if_neg (by rw [h2]; simp)]
  · have h2 : bsB es (Pth.bysL w) = true := by simpa using h2
    refine ok_some hg ?_
    have hlt : bsI es (Pth.bysL w) < es.length := by
      unfold bsB at h2
      split at h2
      · rename_i e he
        exact (List.getElem?_eq_some_iff.1 he).1
      · cases h2
    refine ok_some (ent_getW hlt) ?_
    show vInt _ _ = vInt _ _
    rw [if_pos h2, List.getElem?_eq_getElem hlt]
set_option maxRecDepth 100000 in
theorem sfind_ok (l : List Ob) (ok : LkOK l) (dir : Nat) (hd : dir < l.length) (hk : l[dir].kind = 2) (w : Pth.Txt) {m : Mem} {K : CV → Mem → Prop} (h : K (vInt .i64 (fnd l dir w)) m) : ACall Tryd.prog 33 [obsV l, vInt .i64 (dir : Nat), Pth.vT w] m K :=
  acall_val Tryd.func33 l33 rfl (Nat.le_of_ble_eq_true rfl) (sfind_body l ok dir hd hk w) rfl rfl h
/-! the document's -/
theorem is2_mk {l : List Ob} {n : Nat} (hn : n < l.length) (hk : l[n].kind = 2) : isSB l n 2 = true := by
  unfold isSB
  rw [Int.toNat_natCast, List.getElem?_eq_getElem hn]
  simp [hn, hk]
theorem is2_no {l : List Ob} {d : Int} (h : isSB l d 2 = false) (hd : 0 ≤ d) (hl : d.toNat < l.length) : l[d.toNat].kind ≠ 2 := by
  intro hk
  have := is2_mk hl hk
  rw [show ((d.toNat : Nat) : Int) = d by omega, h] at this
  cases this
theorem is2_neg {l : List Ob} {d : Int} (h : d < 0) : isSB l d 2 = false := by
  unfold isSB
  simp only [Bool.and_eq_false_iff, decide_eq_false_iff_not]
  exact .inl (by omega)
theorem is2_ge {l : List Ob} {d : Int} (h : d ≥ (l.length : Int)) : isSB l d 2 = false := by
  unfold isSB
  simp only [Bool.and_eq_false_iff, decide_eq_false_iff_not]
  exact .inr (.inl (by omega))
theorem is2_ne {l : List Ob} {n : Nat} (hn : n < l.length) (h : l[n].kind ≠ 2) : isSB l n 2 = false := by
  cases hc : isSB l n 2 with
  | false => rfl
  | true =>
    obtain ⟨k, hk, hkn, h2⟩ := is4_yesB (by decide) hc
    have : k = n := by omega
    subst this
    exact absurd h2 h
set_option maxRecDepth 100000 in
set_option maxHeartbeats 8000000 in
theorem rfind_body (l : List Ob) (ok : LkOK l) (dir : Nat) (hd : dir < l.length) (hk : l[dir].kind = 2) (w : Pth.Txt) : body Tryd.prog c14 [obsV l, vInt .i64 (dir : Nat), Pth.vT w] [] (fun r m => r = vInt .i64 (fnd l dir w)) := by
  refine is_okB l dir 2 ?_
  rw [is2_mk hd hk]
  refine ok_some (obj_getB hd) ?_
  obtain ⟨hsrt, hrng, hlen, hent⟩ := ok.ents dir
  have hent := hent hd
  have hu : ∀ n, FindOK (entsO (oAt l dir)) (Pth.bysL w) n → n = fnd l dir w := fun n h => findOK_uniq hsrt h (findS_OK _ _)
  generalize fnd l dir w = F at hu
  generalize entsO (oAt l dir) = es at *
  generalize l[dir] = o at hent
  obtain ⟨kind, data, entries, target, peer, queue, proc, links, up⟩ := o
  have he : entries = es.map entD := hent
  subst he
  refine loop_keep (fun k => k ≤ es.length ∧ ∀ (j : Nat) e, j < k → es[j]? = some e → e.1.toList ≠ (Pth.bysL w).toList) [2, 17, 18] (fun k => [(19, vInt .i64 (k : Nat))]) (fun _ => []) (fun k => es.length - k) 0 ⟨Nat.zero_le _, fun j e h => absurd h (Nat.not_lt_zero j)⟩ ?_ (fun k hk => ?_)
  · refine View.of 0 [] [] rfl rfl rfl rfl rfl rfl ?_ (.nil _)
    repeat (first | exact .nil | refine .junk ?_ | refine .eq rfl ?_)
  obtain ⟨hk, hkb⟩ := hk
  have hk : k ≤ es.length := hk
  refine bB_dec (fun h => ?_) (fun h => ?_)
  · have hlt : k < es.length := by
      have h : (k : Int) < ((es.map entD).length : Int) := h
      rw [List.length_map] at h
      omega
    refine ok_some (ent_get hlt) ?_
    refine bB_split (fun heq => ?_) (fun heq => ?_)
    · show vInt _ _ = vInt _ _
      rw [hu _ (.inl ⟨es[k], List.getElem_mem hlt, by simpa using heq, rfl⟩)]
    · refine ⟨k + 1, ⟨hlt, fun j e hj he => ?_⟩, (show es.length - (k + 1) < es.length - k by omega), View.of 1 [] [] rfl rfl rfl rfl rfl rfl ?_ (.nil _)⟩
      · rcases Nat.lt_or_ge j k with h3 | h3
        · exact hkb j e h3 he
        · have : j = k := by omega
          subst this
          rw [List.getElem?_eq_getElem hlt] at he
          cases he
          simpa using heq
      repeat (first | exact .nil | refine .junk ?_ | refine .put (.ren (next_i64 (by omega)).symm) ?_ | refine .eq rfl ?_)
  · have hge : ¬ k < es.length := by
      have h : ¬ (k : Int) < ((es.map entD).length : Int) := h
      rw [List.length_map] at h
      omega
    show vInt _ _ = vInt _ _
    rw [← hu (-1) (.inr ⟨rfl, fun e he => ?_⟩)]
    obtain ⟨j, hj⟩ := List.getElem?_of_mem he
    exact hkb j e (by have := (List.getElem?_eq_some_iff.1 hj).1; omega) hj
set_option maxRecDepth 100000 in
theorem rfind_ok (l : List Ob) (ok : LkOK l) (dir : Nat) (hd : dir < l.length) (hk : l[dir].kind = 2) (w : Pth.Txt) {m : Mem} {K : CV → Mem → Prop} (h : K (vInt .i64 (fnd l dir w)) m) : ACall Tryd.prog 14 [obsV l, vInt .i64 (dir : Nat), Pth.vT w] m K :=
  acall_val Tryd.func14 l14 rfl (Nat.le_of_ble_eq_true rfl) (rfind_body l ok dir hd hk w) rfl rfl h
/-! Beneath -/
def bnS (l : List Ob) (base : Int) : Nat → Int → Bool
  | 0, _ => false
  | n + 1, d => if isSB l d 2 = false then false else if d = base then true else if d = 0 then false else bnS l base n (oAt l d.toNat).up
structure StBn where
  i : Nat
  d : Int
set_option maxRecDepth 100000 in
set_option maxHeartbeats 8000000 in
theorem sben_body (l : List Ob) (hl : l.length ≤ 4194304) (dir base : Int) : body Tryd.prog c11 [obsV l, vInt .i64 dir, vInt .i64 base] [] (fun r m => r = vBool (bnS l base (l.length + 1) dir)) := by
  refine loop_keep (fun a : StBn => a.i ≤ l.length + 1 ∧ bnS l base (l.length + 1 - a.i) a.d = bnS l base (l.length + 1) dir) [0, 2] (fun a => [(9, vInt .i64 ((l.length + 1 : Nat) : Int)), (10, vInt .i64 (a.i : Nat)), (1, vInt .i64 a.d)]) (fun _ => []) (fun a => l.length + 1 - a.i) ⟨0, dir⟩ ⟨Nat.zero_le _, rfl⟩ ?_ (fun a ha => ?_)
  · refine View.of 0 [] [] rfl rfl rfl rfl rfl rfl ?_ (.nil _)
    have hlen : vInt .i64 (IntKind.i64.wrap (((l.map Ob.enc).length : Int) + 1)) = vInt .i64 ((l.length + 1 : Nat) : Int) := by
      rw [List.length_map]
      show vInt _ _ = vInt _ _
      rw [show (l.length : Int) + 1 = ((l.length + 1 : Nat) : Int) by omega, wrapN (by omega)]
    repeat (first | exact .nil | refine .junk ?_ | refine .eq rfl ?_ | refine .eq hlen.symm ?_)
  obtain ⟨i, d⟩ := a
  obtain ⟨h1, h2⟩ := ha
  have h1 : i ≤ l.length + 1 := h1
  have h2 : bnS l base (l.length + 1 - i) d = bnS l base (l.length + 1) dir := h2
  refine bB_dec (fun h => ?_) (fun h => ?_)
  · have hlt : i < l.length + 1 := by
      have h : (i : Int) < ((l.length + 1 : Nat) : Int) := h
      omega
    rw [show l.length + 1 - i = (l.length - i) + 1 by omega, bnS] at h2
    have h20 := h2
    rw [← h2]
    refine bB_dec (fun h3 => ?_) (fun h3 => ?_)
    · rw [is2_neg h3]; rfl
    refine bB_dec (fun h4 => ?_) (fun h4 => ?_)
    · have h4 : d ≥ ((l.map Ob.enc).length : Int) := h4
      rw [List.length_map] at h4
      rw [is2_ge h4]; rfl
    have h4 : ¬ d ≥ ((l.map Ob.enc).length : Int) := h4
    rw [List.length_map] at h4
    have h3 : ¬ d < 0 := h3
    obtain ⟨n, rfl⟩ : ∃ n : Nat, d = n := ⟨d.toNat, by omega⟩
    have hn : n < l.length := by omega
    refine ok_some (obj_getB hn) ?_
    refine bB_bne (fun h5 => ?_) (fun h5 => ?_)
    · rw [is2_ne hn h5]; rfl
    have h5 : l[n].kind = 2 := h5
    rw [is2_mk hn h5]
    refine bB_beq (fun h6 => ?_) (fun h6 => ?_)
    · rw [if_neg (by simp), if_pos h6]; rfl
    refine bB_beq (fun h7 => ?_) (fun h7 => ?_)
    · rw [if_neg (by simp), if_neg h6, if_pos h7]; rfl
    refine ok_some (obj_getB hn) ?_
    rw [is2_mk hn h5, if_neg (by simp), if_neg h6, if_neg h7, Int.toNat_natCast, oAt_eq hn] at h2
    refine ⟨⟨i + 1, l[n].up⟩, ⟨by show i + 1 ≤ l.length + 1; omega, by show bnS l base (l.length + 1 - (i + 1)) _ = _; rw [show l.length + 1 - (i + 1) = l.length - i by omega]; exact h2.trans (by rw [← h20, is2_mk hn h5])⟩, (show l.length + 1 - (i + 1) < l.length + 1 - i by omega), View.of 0 [] [] rfl rfl rfl rfl rfl rfl ?_ (.nil _)⟩
    repeat (first | exact .nil | refine .junk ?_ | refine .put (.ren (next_i64 (by omega)).symm) ?_ | refine .eq rfl ?_)
  · have hge : ¬ i < l.length + 1 := by
      have h : ¬ (i : Int) < ((l.length + 1 : Nat) : Int) := h
      omega
    rw [show l.length + 1 - i = 0 by omega] at h2
    rw [← h2]
    rfl
set_option maxRecDepth 100000 in
theorem sben_ok (l : List Ob) (hl : l.length ≤ 4194304) (dir base : Int) {m : Mem} {K : CV → Mem → Prop} (h : K (vBool (bnS l base (l.length + 1) dir)) m) : ACall Tryd.prog 11 [obsV l, vInt .i64 dir, vInt .i64 base] m K :=
  acall_val Tryd.func11 l11 rfl (Nat.le_of_ble_eq_true rfl) (sben_body l hl dir base) rfl rfl h
/-! marks in a map -/
def tt1 : RV := .one (.dat (.val (.bool true)))
def entN (n : Nat) : ME := ⟨.int .i64 (n : Nat), tt1⟩
def inN (L : List Nat) (z : Int) : Bool := L.any fun n => z == (n : Int)
theorem mFind_N (z : Int) : ∀ L : List Nat, mFind (.int .i64 z) (L.map entN) = some (if inN L z = true then some tt1 else none)
  | [] => rfl
  | n :: r => by
    have ih := mFind_N z r
    simp only [List.map_cons, mFind, entN, keyEq, decide_true]
    simp only [inN, List.any_cons] at ih ⊢
    by_cases h : z = (n : Int)
    · subst h
      simp
    · have h1 : (z == (n : Int)) = false := by simpa using h
      simp only [h1, Bool.false_or]
      exact ih
theorem mSet_N (z : Int) : ∀ L : List Nat, inN L z = false → mSet (.int .i64 z) tt1 (L.map entN) = some (L.map entN ++ [⟨.int .i64 z, tt1⟩])
  | [], _ => rfl
  | n :: r, h => by
    simp only [inN, List.any_cons, Bool.or_eq_false_iff] at h
    obtain ⟨h1, h2⟩ := h
    have ih := mSet_N z r h2
    simp only [List.map_cons, mSet, entN, keyEq, decide_true, h1]
    rw [ih]
    rfl
theorem mapN_ren {σ : Nat → Nat} (L : List Nat) : (Bk.mp (L.map entN)).ren σ = .mp (L.map entN) := by
  simp [Bk.ren, RV.ren, CC.ren, entN, tt1, Function.comp_def]
theorem inN_iff {L : List Nat} {n : Nat} : inN L (n : Int) = true ↔ n ∈ L := by
  rw [inN, List.any_eq_true]
  constructor
  · rintro ⟨x, hx, h⟩
    have : (n : Int) = x := by simpa using h
    have : n = x := by omega
    rw [this]; exact hx
  · intro h
    exact ⟨n, h, by simp⟩
/-- what is closed and has neither the base nor the root never comes there -/
theorem bnS_closed {l : List Ob} {base : Int} (V : List Nat) (h : ∀ x, x ∈ V → (x : Int) ≠ base ∧ ∃ y, y ∈ V ∧ (oAt l x).up = (y : Nat)) : ∀ (n x : Nat), x ∈ V → bnS l base n (x : Nat) = false
  | 0, _, _ => rfl
  | n + 1, x, hx => by
    obtain ⟨h1, y, hy, h2⟩ := h x hx
    rw [bnS]
    by_cases hI : isSB l x 2 = false
    · rw [if_pos hI]
    rw [if_neg hI, if_neg h1]
    by_cases h0 : (x : Int) = 0
    · rw [if_pos h0]
    rw [if_neg h0, Int.toNat_natCast, h2]
    exact bnS_closed V h n y hy
theorem nodup_le : ∀ {N : Nat} {V : List Nat}, V.Nodup → (∀ x, x ∈ V → x < N) → V.length ≤ N
  | 0, V, _, h => by
    cases V with
    | nil => exact Nat.le_refl _
    | cons x r => exact absurd (h x (by simp)) (Nat.not_lt_zero x)
  | N + 1, V, hd, h => by
    by_cases hm : N ∈ V
    · have h1 := List.length_erase_of_mem hm
      have h2 := nodup_le (N := N) (hd.erase N) fun x hx => by
        rw [hd.mem_erase_iff] at hx
        have := h x hx.2
        have := hx.1
        omega
      have := List.length_pos_of_mem hm
      omega
    · have := nodup_le (N := N) hd fun x hx => by
        have h1 := h x hx
        have : x ≠ N := fun e => hm (e ▸ hx)
        omega
      omega
structure StRb where
  d : Int
  V : List Nat
structure RbOK (l : List Ob) (base dir : Int) (a : StRb) : Prop where
  nd : a.V.Nodup
  rg : ∀ x, x ∈ a.V → x < l.length
  cl : ∀ x, x ∈ a.V → (x : Int) ≠ base ∧ ((oAt l x).up = a.d ∨ ∃ y, y ∈ a.V ∧ (oAt l x).up = (y : Nat))
  eq : bnS l base (l.length + 1 - a.V.length) a.d = bnS l base (l.length + 1) dir
theorem RbOK.le {l : List Ob} {base dir : Int} {a : StRb} (h : RbOK l base dir a) : a.V.length ≤ l.length := nodup_le h.nd h.rg
theorem RbOK.had {l : List Ob} {base dir : Int} {a : StRb} (h : RbOK l base dir a) {n : Nat} (hn : a.d = n) (hm : n ∈ a.V) : bnS l base (l.length + 1) dir = false := by
  rw [← h.eq, hn]
  refine bnS_closed a.V (fun x hx => ?_) _ n hm
  obtain ⟨h1, h2⟩ := h.cl x hx
  refine ⟨h1, ?_⟩
  rcases h2 with h2 | h2
  · exact ⟨n, hm, h2.trans hn⟩
  · exact h2
theorem RbOK.next {l : List Ob} {base dir : Int} {n : Nat} {V : List Nat} (h : RbOK l base dir ⟨n, V⟩) (hm : n ∉ V) (hn : n < l.length) (hk : l[n].kind = 2) (hb : (n : Int) ≠ base) (h0 : (n : Int) ≠ 0) : RbOK l base dir ⟨l[n].up, V ++ [n]⟩ := by
  have hle := h.le
  have hle : V.length ≤ l.length := hle
  refine ⟨?_, fun x hx => ?_, fun x hx => ?_, ?_⟩
  · show (V ++ [n]).Nodup
    rw [List.nodup_append]
    refine ⟨h.nd, by simp, fun a ha b hb2 => ?_⟩
    rw [List.mem_singleton] at hb2
    subst hb2
    intro e
    subst e
    exact hm ha
  · rcases List.mem_append.1 hx with hx | hx
    · exact h.rg x hx
    · rw [List.mem_singleton] at hx
      subst hx
      exact hn
  · rcases List.mem_append.1 hx with hx | hx
    · obtain ⟨h1, h2⟩ := h.cl x hx
      refine ⟨h1, .inr ?_⟩
      rcases h2 with h2 | ⟨y, hy, h2⟩
      · exact ⟨n, by simp, h2⟩
      · exact ⟨y, by simp [hy], h2⟩
    · rw [List.mem_singleton] at hx
      subst hx
      exact ⟨hb, .inl (by rw [oAt_eq hn])⟩
  · have := h.eq
    have h3 : bnS l base (l.length + 1 - V.length) (n : Nat) = bnS l base (l.length + 1) dir := this
    rw [← h3]
    show bnS l base (l.length + 1 - (V ++ [n]).length) l[n].up = _
    rw [List.length_append, show l.length + 1 - V.length = (l.length - V.length) + 1 by omega, bnS, is2_mk hn hk, if_neg (by simp), if_neg hb, if_neg h0, Int.toNat_natCast, oAt_eq hn]
    show bnS l base (l.length + 1 - (V.length + 1)) _ = _
    rw [show l.length + 1 - (V.length + 1) = l.length - V.length by omega]
set_option maxRecDepth 100000 in
set_option maxHeartbeats 8000000 in
theorem rben_body (l : List Ob) (hl : l.length ≤ 4194304) (dir base : Int) : body Tryd.prog c12 [obsV l, vInt .i64 dir, vInt .i64 base] [] (fun r m => r = vBool (bnS l base (l.length + 1) dir)) := by
  refine loop_keep (fun a : StRb => RbOK l base dir a) [0, 2, 7] (fun a => [(1, vInt .i64 a.d)]) (fun a => [.mp (a.V.map entN)]) (fun a => l.length + 1 - a.V.length) ⟨dir, []⟩ ⟨by simp, by simp, by simp, rfl⟩ ?_ (fun a ha => ?_)
  · refine View.of 1 [0] [] rfl rfl rfl rfl rfl rfl ?_ ?_
    · repeat (first | exact .nil | refine .junk ?_ | refine .eq rfl ?_)
    · exact .put (notF rfl) rfl (.eq rfl (by simp)) (.nil _)
  obtain ⟨d, V⟩ := a
  have hle := ha.le
  have hle : V.length ≤ l.length := hle
  have heq := ha.eq
  have heq : bnS l base (l.length + 1 - V.length) d = bnS l base (l.length + 1) dir := heq
  rw [show l.length + 1 - V.length = (l.length - V.length) + 1 by omega, bnS] at heq
  refine is_okB l d 2 ?_
  cases hI : isSB l d 2 with
  | false =>
    rw [hI] at heq
    rw [← heq]
    rfl
  | true =>
    obtain ⟨n, rfl, hn, hk⟩ := is4_yesB (by decide) hI
    rw [hI, if_neg (by simp)] at heq
    refine ok_some (mFind_N (n : Nat) V) ?_
    cases hN : inN V (n : Nat) with
    | true =>
      rw [ha.had rfl (inN_iff.1 hN)]
      rfl
    | false =>
      have hm : n ∉ V := fun h => by rw [inN_iff.2 h] at hN; cases hN
      refine bB_beq (fun h6 => ?_) (fun h6 => ?_)
      · rw [if_pos h6] at heq
        rw [← heq]
        rfl
      rw [if_neg h6] at heq
      refine ok_some (mSet_N (n : Nat) V hN) ?_
      refine bB_beq (fun h7 => ?_) (fun h7 => ?_)
      · rw [if_pos h7] at heq
        rw [← heq]
        rfl
      refine ok_some (obj_getB hn) ?_
      refine ⟨⟨l[n].up, V ++ [n]⟩, ha.next hm hn hk h6 h7, (show l.length + 1 - (V ++ [n]).length < l.length + 1 - V.length by rw [List.length_append, List.length_singleton]; omega), View.of 1 [0] [] rfl rfl rfl rfl rfl rfl ?_ ?_⟩
      · repeat (first | exact .nil | refine .junk ?_ | refine .eq rfl ?_)
      · refine .put (notF rfl) rfl (.eq ?_ (by simp)) (.nil _)
        simp [Bk.ren, RV.ren, CC.ren, entN, tt1, Function.comp_def]
set_option maxRecDepth 100000 in
theorem rben_ok (l : List Ob) (hl : l.length ≤ 4194304) (dir base : Int) {m : Mem} {K : CV → Mem → Prop} (h : K (vBool (bnS l base (l.length + 1) dir)) m) : ACall Tryd.prog 12 [obsV l, vInt .i64 dir, vInt .i64 base] m K :=
  acall_val Tryd.func12 l12 rfl (Nat.le_of_ble_eq_true rfl) (rben_body l hl dir base) rfl rfl h

def c32 : LF := ⟨32, [.tmp 2], (.seq (.reg [
    ⟨(some 2), .mov (.c (.rv (.one (.dat (.val (.bool false)))))), none⟩]) (.seq (.seq (.draw [
    ⟨(some 3), .mov (.t 0), none⟩,
    ⟨(some 4), .nilc (.t 3), none⟩,
    ⟨(some 5), .fadr 4 (.t 4), none⟩,
    ⟨(some 6), .load false 1 (.t 5), none⟩,
    ⟨(some 7), .mov (.t 0), none⟩,
    ⟨(some 8), .nilc (.t 7), none⟩,
    ⟨(some 9), .fadr 1 (.t 8), none⟩,
    ⟨(some 10), .load false 1 (.t 9), none⟩,
    ⟨(some 11), .bin .eql (.t 6) (.t 10), none⟩,
    ⟨(some 12), .mov (.t 11), none⟩,
    ⟨(some 13), .mov (.t 0), (some (12, true))⟩,
    ⟨(some 14), .nilc (.t 13), (some (12, true))⟩,
    ⟨(some 15), .fadr 2 (.t 14), (some (12, true))⟩,
    ⟨(some 16), .load false 1 (.t 15), (some (12, true))⟩,
    ⟨(some 17), .pick (.t 12) (.t 16) (.c (.rv (.one (.dat (.val (.bool false)))))), none⟩]
    [(.cons 0 none (.cons 1 none (.cons 2 none (.cons 3 none (.cons 4 none (.cons 5 none (.cons 6 none (.cons 7 none (.cons 8 none (.cons 9 none (.cons 10 none (.cons 11 none (.cons 12 none (.cons 13 none (.cons 14 none .nil)))))))))))))))]) (.cond (.t 17) (.seq (.reg [
    ⟨(some 2), .mov (.c (.rv (.one (.dat (.val (.bool false)))))), none⟩]) .ret) .skip)) (.seq (.draw [
    ⟨(some 18), .mov (.t 0), none⟩,
    ⟨(some 19), .mov (.t 0), none⟩,
    ⟨(some 20), .nilc (.t 19), none⟩,
    ⟨(some 21), .fadr 0 (.t 20), none⟩,
    ⟨(some 22), .load false 1 (.t 21), none⟩,
    ⟨(some 23), .mov (.t 0), none⟩,
    ⟨(some 24), .nilc (.t 23), none⟩,
    ⟨(some 25), .fadr 4 (.t 24), none⟩,
    ⟨(some 26), .load false 1 (.t 25), none⟩,
    ⟨(some 27), .idx 9 (.t 22) (.t 26), none⟩,
    ⟨(some 28), .fadr 8 (.t 27), none⟩,
    ⟨(some 29), .load false 1 (.t 28), none⟩,
    ⟨(some 30), .nilc (.t 18), none⟩,
    ⟨(some 31), .fadr 4 (.t 30), none⟩,
    ⟨none, .store 1 (.t 31) (.t 29), none⟩]
    [(.cons 0 none (.cons 1 none (.cons 2 none (.cons 3 none (.cons 4 none (.cons 5 none (.cons 6 none (.cons 7 none (.cons 8 none (.cons 9 none (.cons 10 none (.cons 11 none (.cons 12 none (.cons 13 none (.cons 14 (some []) .nil)))))))))))))))]) (.seq (.reg [
    ⟨(some 2), .mov (.c (.rv (.one (.dat (.val (.bool true)))))), none⟩]) .ret))))⟩
def c34 : LF := ⟨48, [.tmp 4], (.seq (.reg [
    ⟨(some 4), .mov (.c (.rv (.one (.dat (.val (.int .i64 (0))))))), none⟩]) (.seq (.seq (.reg [
    ⟨(some 8), .mov (.t 0), none⟩,
    ⟨(some 9), .nilc (.t 8), none⟩,
    ⟨(some 10), .fadr 3 (.t 9), none⟩,
    ⟨(some 11), .load false 1 (.t 10), none⟩,
    ⟨(some 12), .bin .eql (.t 11) (.c (.rv (.one (.dat (.val (.int .i64 (6))))))), none⟩]) (.cond (.t 12) (.seq (.reg [
    ⟨(some 4), .mov (.c (.rv (.one (.dat (.val (.int .i64 (13))))))), none⟩]) .ret) .skip)) (.seq (.reg [
    ⟨(some 13), .mov (.t 0), none⟩,
    ⟨(some 14), .nilc (.t 13), none⟩,
    ⟨(some 15), .fadr 3 (.t 14), none⟩,
    ⟨(some 16), .load false 1 (.t 15), none⟩,
    ⟨(some 17), .bin .add (.t 16) (.c (.rv (.one (.dat (.val (.int .i64 (1))))))), none⟩,
    ⟨(some 18), .nilc (.t 13), none⟩,
    ⟨(some 19), .fadr 3 (.t 18), none⟩,
    ⟨none, .store 1 (.t 19) (.t 17), none⟩]) (.seq (.reg [
    ⟨(some 21), .mov (.t 1), none⟩,
    ⟨(some 22), .call (.c (.rv (.one (.fn 26 [])))) [(.t 21)], none⟩,
    ⟨(some 20), .mov (.t 22), none⟩,
    ⟨(some 23), .ext (.t 20) 0, none⟩,
    ⟨(some 24), .ext (.t 20) 1, none⟩,
    ⟨(some 25), .ext (.t 20) 2, none⟩,
    ⟨(some 5), .mov (.t 23), none⟩,
    ⟨(some 6), .mov (.t 24), none⟩,
    ⟨(some 7), .mov (.t 25), none⟩]) (.seq (.seq (.reg [
    ⟨(some 26), .mov (.t 7), none⟩,
    ⟨(some 27), .bin .neq (.t 26) (.c (.rv (.one (.dat (.val (.int .i64 (0))))))), none⟩]) (.cond (.t 27) (.seq (.reg [
    ⟨(some 28), .mov (.t 7), none⟩,
    ⟨(some 4), .mov (.t 28), none⟩]) .ret) .skip)) (.seq (.seq (.reg [
    ⟨(some 29), .mov (.t 6), none⟩]) (.cond (.t 29) (.seq (.seq (.reg [
    ⟨(some 30), .mov (.t 0), none⟩,
    ⟨(some 31), .nilc (.t 30), none⟩,
    ⟨(some 32), .fadr 2 (.t 31), none⟩,
    ⟨(some 33), .load false 1 (.t 32), none⟩]) (.cond (.t 33) (.seq (.reg [
    ⟨(some 4), .mov (.c (.rv (.one (.dat (.val (.int .i64 (14))))))), none⟩]) .ret) .skip)) (.reg [
    ⟨(some 34), .mov (.t 0), none⟩,
    ⟨(some 35), .nilc (.t 34), none⟩,
    ⟨(some 36), .fadr 4 (.t 35), none⟩,
    ⟨none, .store 1 (.t 36) (.c (.rv (.one (.dat (.val (.int .i64 (0))))))), none⟩])) .skip)) (.seq (.draw [
    ⟨(some 37), .mov (.t 0), none⟩,
    ⟨(some 38), .bsl 1 [(.dat (.val (.string ⟨#[]⟩)))] 0 [], none⟩,
    ⟨(some 39), .mov (.t 5), none⟩,
    ⟨(some 40), .app 1 16 (.t 38) (.t 39), none⟩,
    ⟨(some 41), .mov (.t 0), none⟩,
    ⟨(some 42), .nilc (.t 41), none⟩,
    ⟨(some 43), .fadr 5 (.t 42), none⟩,
    ⟨(some 44), .load false 1 (.t 43), none⟩,
    ⟨(some 45), .app 1 16 (.t 40) (.t 44), none⟩,
    ⟨(some 46), .nilc (.t 37), none⟩,
    ⟨(some 47), .fadr 5 (.t 46), none⟩,
    ⟨none, .store 1 (.t 47) (.t 45), none⟩]
    [(.cons 0 none (.cons 2 none (.cons 4 none (.cons 5 none (.cons 6 none (.cons 7 none (.cons 1 (some [7]) (.cons 3 (some [7]) (.cons 8 (some []) (.cons 9 none (.cons 10 none (.cons 11 (some []) .nil))))))))))))]) (.seq (.reg [
    ⟨(some 4), .mov (.c (.rv (.one (.dat (.val (.int .i64 (0))))))), none⟩]) .ret))))))))⟩
/-! the walker: up, link -/
theorem l32 : lowF Tryd.prog Tryd.f32 = some c32 := by kernel_rfl
theorem l34 : lowF Tryd.prog Tryd.f34 = some c34 := by kernel_rfl
def wkB (l : List Ob) (base : Nat) (fence : Bool) (h a : Nat) (t : List Pth.Txt) : Bk := .var [.dat (obsD l), .dat (.val (.int .i64 (base : Nat))), .dat (.val (.bool fence)), .dat (.val (.int .i64 (h : Nat))), .dat (.val (.int .i64 (a : Nat))), .dat (Pth.txD t)]
theorem wkB_ne (l : List Ob) (base : Nat) (fence : Bool) (h a : Nat) (t : List Pth.Txt) : wkB l base fence h a t ≠ .dead := by intro x; cases x
/-- a method of the walker, called upon block id -/
theorem wk_ok {f : Nat} {args : List CV} (ha : ∀ σ, args.map (CV.ren σ) = args) {l : List Ob} {base : Nat} {fence : Bool} {h a : Nat} {t : List Pth.Txt} {Q : CV → Nat → Nat → List Pth.Txt → Prop} (hr : ∀ r h a t, Q r h a t → ∀ σ, r.ren σ = r)
    (hc : ACall Tryd.prog f (.rv (.one (.ptr 0 0)) :: args) [wkB l base fence h a t] (fun r m => ∃ h' a' t', m = [wkB l base fence h' a' t'] ∧ Q r h' a' t')) {m : Mem} (id : Nat) (hb : nth m id = some (wkB l base fence h a t)) {K : CV → Mem → Prop}
    (hK : ∀ r h' a' t', Q r h' a' t' → K r (setN m id (wkB l base fence h' a' t'))) : ACall Tryd.prog f (.rv (.one (.ptr id 0)) :: args) m K := by
  have hid : id < m.length := by
    rw [nth_eq] at hb
    exact (List.getElem?_eq_some_iff.1 hb).1
  refine acall_borrow [id] m.length rfl rfl rfl (by simp [allLt, hid]) (args0 := .rv (.one (.ptr 0 0)) :: args) (by rw [List.map_cons, ha]; rfl) (fun i b' hi => ?_) hc (fun r1 m1 hr1 => ?_)
  · cases i with
    | zero =>
      simp at hi
      subst hi
      refine .inr ⟨fun h => h, _, ?_, .eq rfl (wkB_ne _ _ _ _ _ _)⟩
      rw [nth_eq] at hb
      exact hb
    | succ i => simp at hi
  · obtain ⟨h', a', t', rfl, hq⟩ := hr1
    refine ⟨Nat.le_refl _, ?_⟩
    rw [hr _ _ _ _ hq]
    show K r1 (weave m [id] [wkB l base fence h' a' t'])
    rw [setN_one]
    exact hK _ _ _ _ hq
theorem wkV {r : CV} {l : List Ob} {base : Nat} {fence : Bool} {h a : Nat} {t : List Pth.Txt} {X : Mem} (hr : ∀ σ, r.ren σ = r) : View 1 ⟨[r], wkB l base fence h a t :: X⟩ ⟨[r], [wkB l base fence h a t]⟩ :=
  View.of (X.length + 1) [0] [] rfl rfl rfl rfl rfl (by simp [allLt, Nat.blt]) (.eq (hr _) .nil) (.put (notF rfl) rfl (.eq rfl (wkB_ne _ _ _ _ _ _)) (.nil _))
/-! up -/
def upR (l : List Ob) (base : Nat) (fence : Bool) (h a : Nat) (t : List Pth.Txt) (r : CV) (h' a' : Nat) (t' : List Pth.Txt) : Prop :=
  h' = h ∧ t' = t ∧ ((fence = true ∧ a = base) ∧ r = vBool false ∧ a' = a ∨ ¬ (fence = true ∧ a = base) ∧ r = vBool true ∧ a' = upN l a)
set_option maxRecDepth 100000 in
set_option maxHeartbeats 8000000 in
theorem up_body (l : List Ob) (ok : LkOK l) (base : Nat) (fence : Bool) (h a : Nat) (ha : a < l.length) (t : List Pth.Txt) : body Tryd.prog c32 [.rv (.one (.ptr 0 0))] [wkB l base fence h a t] (fun r m => ∃ h' a' t', m = [wkB l base fence h' a' t'] ∧ upR l base fence h a t r h' a' t') := by
  have hg := obj_getB ha
  have hu := ok.upN_eq ha
  refine bB_beq (fun h1 => ?_) (fun h1 => ?_)
  · cases fence with
    | true => exact ⟨_, _, _, rfl, rfl, rfl, .inl ⟨⟨rfl, by omega⟩, rfl, rfl⟩⟩
    | false =>
      refine ok_some hg ?_
      refine ⟨trivial, ?_⟩
      rw [hu]
      exact ⟨_, _, _, rfl, rfl, rfl, .inr ⟨by simp, rfl, rfl⟩⟩
  · refine ok_some hg ?_
    refine ⟨trivial, ?_⟩
    rw [hu]
    exact ⟨_, _, _, rfl, rfl, rfl, .inr ⟨fun h => h1 (by rw [h.2]), rfl, rfl⟩⟩
set_option maxRecDepth 100000 in
theorem up_ok (l : List Ob) (ok : LkOK l) (base : Nat) (fence : Bool) (h a : Nat) (ha : a < l.length) (t : List Pth.Txt) {m : Mem} (id : Nat) (hb : nth m id = some (wkB l base fence h a t)) {K : CV → Mem → Prop}
    (hK1 : (fence = true ∧ a = base) → K (vBool false) (setN m id (wkB l base fence h a t))) (hK2 : ¬ (fence = true ∧ a = base) → K (vBool true) (setN m id (wkB l base fence h (upN l a) t))) : ACall Tryd.prog 32 [.rv (.one (.ptr id 0))] m K := by
  refine wk_ok (args := []) (fun _ => rfl) (Q := upR l base fence h a t) (fun r h a t hq σ => ?_) (acall_body Tryd.func32 l32 rfl (Nat.le_of_ble_eq_true rfl) (up_body l ok base fence h a ha t)) id hb (fun r h' a' t' hq => ?_)
  · rcases hq.2.2 with ⟨_, rfl, _⟩ | ⟨_, rfl, _⟩ <;> rfl
  · obtain ⟨rfl, rfl, hq⟩ := hq
    rcases hq with ⟨h1, rfl, rfl⟩ | ⟨h1, rfl, rfl⟩
    · exact hK1 h1
    · exact hK2 h1

/-! the walker: link -/
theorem splitS_len (t : Pth.Txt) : (Pth.splitS t).1.length ≤ 61 := by
  unfold Pth.splitS
  split
  · simp
  · split
    · simp
    · split
      · show (Pth.partsS t).length ≤ 61
        have h1 := List.length_filter_le Pth.keepT (Pth.cutL 47 t)
        have h2 := Pth.cutL_len 47 t
        unfold Pth.partsS
        omega
      · simp
inductive LkR (p : List Pth.Txt × Bool × Int) (fence : Bool) (h a : Nat) (t : List Pth.Txt) : CV → Nat → Nat → List Pth.Txt → Prop
  | loop (h' a' : Nat) (t' : List Pth.Txt) (h6 : h = 6) : LkR p fence h a t (vInt .i64 13) h' a' t'
  | err (h' a' : Nat) (t' : List Pth.Txt) (h6 : h ≠ 6) (he : p.2.2 ≠ 0) : LkR p fence h a t (vInt .i64 p.2.2) h' a' t'
  | out (h' a' : Nat) (t' : List Pth.Txt) (h6 : h ≠ 6) (he : p.2.2 = 0) (hr : p.2.1 = true) (hf : fence = true) : LkR p fence h a t (vInt .i64 14) h' a' t'
  | ok (h6 : h ≠ 6) (he : p.2.2 = 0) (hr : ¬ (p.2.1 = true ∧ fence = true)) : LkR p fence h a t (vInt .i64 0) (h + 1) (if p.2.1 = true then 0 else a) (p.1 ++ t)
theorem LkR.data {p : List Pth.Txt × Bool × Int} {fence : Bool} {h a : Nat} {t : List Pth.Txt} {r : CV} {h' a' : Nat} {t' : List Pth.Txt} (x : LkR p fence h a t r h' a' t') (σ : Nat → Nat) : r.ren σ = r := by cases x <;> rfl
def TV1 (Q : CV → Mem → Prop) (r : CV) (m : Mem) : Prop := ∃ r' m', View 1 ⟨[r], m⟩ ⟨[r'], m'⟩ ∧ Q r' m'
theorem tD_rows (a b : List Pth.Txt) : dRows (a.map Pth.tD) ++ dRows (b.map Pth.tD) = dRows ((a ++ b).map Pth.tD) := by
  rw [List.map_append, Pth.dRows_append]
theorem frzTx {m : Mem} {Z : Nat → Prop} {id : Nat} {p : Option Nat} {X : List (List CC)} {ds : List (List Dt)} (hz : Z id) (hm : m[id]? = some (.row 1 X)) (hX : X = dRows ds) : FrzD m Z p (.row id 1 0 none) (.sl 1 ds) := by
  subst hX
  refine FrzD.row id 1 0 none (dRows ds) ds hz hm (by simp [dRows]) (fun i cs es h1 h2 => ?_) (fun i cs es j c d h1 h2 h3 h4 => ?_)
  · simp only [dRows, List.getElem?_map, h2, Option.map_some, Option.some.injEq] at h1
    subst h1
    simp
  · simp only [dRows, List.getElem?_map, h2, Option.map_some, Option.some.injEq] at h1
    subst h1
    rw [List.getElem?_map, h4] at h3
    cases h3
    exact .dat _
theorem lnkC {l : List Ob} {base : Nat} {fence : Bool} {h a : Nat} {t parts : List Pth.Txt} {m : Mem} {σ : Nat → Nat} (hm : m[3]? = some (.row 1 ((([] : List (List CC)) ++ dRows (parts.map Pth.tD)) ++ dRows (t.map Pth.tD)))) :
    VwB σ m (fun k => memN [3] k = true) 0 (.var [.dat (obsD l), .dat (.val (.int .i64 (base : Nat))), .dat (.val (.bool fence)), .dat (.val (.int .i64 (h : Nat))), .dat (.val (.int .i64 (a : Nat))), .row 3 1 0 none]) (wkB l base fence h a (parts ++ t)) :=
  CcsVp.var (.cons (.ren (.dat _)) (.cons (.ren (.dat _)) (.cons (.ren (.dat _)) (.cons (.ren (.dat _)) (.cons (.ren (.dat _)) (.cons (.frz (frzTx rfl hm (by rw [List.nil_append]; exact tD_rows parts t))) .nil))))))
set_option maxRecDepth 100000 in
set_option maxHeartbeats 8000000 in
theorem link_body (l : List Ob) (base : Nat) (fence : Bool) (h a : Nat) (hh : h ≤ 6) (t : List Pth.Txt) (ht : t.length ≤ 1000) (s : Pth.Txt) :
    body Tryd.prog c34 [.rv (.one (.ptr 0 0)), Pth.vT s] [wkB l base fence h a t] (TV1 fun r m => ∃ h' a' t', m = [wkB l base fence h' a' t'] ∧ LkR (Pth.splitS s) fence h a t r h' a' t') := by
  refine bB_beq (fun h1 => ?_) (fun h1 => ?_)
  · exact ⟨_, _, wkV (X := []) (fun _ => rfl), _, _, _, rfl, .loop _ _ _ (by omega)⟩
  have h6 : h ≠ 6 := fun e => h1 (by rw [e]; rfl)
  refine Pth.split_ok s ?_
  have hp := splitS_len s
  generalize Pth.splitS s = p at hp ⊢
  obtain ⟨parts, root, er⟩ := p
  have hp : parts.length ≤ 61 := hp
  have e1 : IntKind.i64.wrap ((h : Int) + 1) = ((h + 1 : Nat) : Int) := by
    rw [show (h : Int) + 1 = ((h + 1 : Nat) : Int) by omega, wrapN (by omega)]
  rw [e1]
  refine bB_bne (fun h2 => ?_) (fun h2 => ?_)
  · exact ⟨_, _, wkV (h := h + 1) (X := []) (fun _ => rfl), _, _, _, rfl, .err _ _ _ h6 h2⟩
  have h2 : er = 0 := by simpa using h2
  subst h2
  cases root with
  | true =>
    cases fence with
    | true => exact ⟨_, _, wkV (h := h + 1) (X := []) (fun _ => rfl), _, _, _, rfl, .out _ _ _ h6 rfl rfl rfl⟩
    | false =>
      refine ⟨⟨rfl, trivial⟩, ?_⟩
      refine ⟨?_, ?_⟩
      · show (0 + (dRows (parts.map Pth.tD)).length) * 16 ≤ _
        rw [Pth.dRows_len, List.length_map]; omega
      refine ⟨⟨rfl, trivial⟩, ?_⟩
      refine ⟨?_, ?_⟩
      · show ((([] : List (List CC)) ++ dRows (parts.map Pth.tD)).length + (dRows (t.map Pth.tD)).length) * 16 ≤ _
        rw [List.length_append, Pth.dRows_len, Pth.dRows_len, List.length_map, List.length_map]
        show (0 + parts.length + t.length) * 16 ≤ _
        omega
      refine ⟨trivial, ?_⟩
      refine ⟨trivial, ?_⟩
      exact ⟨_, _, View.of 4 [0] [3] rfl rfl rfl rfl rfl rfl (.eq rfl .nil) (.put (notF rfl) rfl (lnkC (t := t) (parts := parts) rfl) (.nil _)), _, _, _, rfl, .ok h6 rfl (by simp)⟩
  | false =>
    refine ⟨⟨rfl, trivial⟩, ?_⟩
    refine ⟨?_, ?_⟩
    · show (0 + (dRows (parts.map Pth.tD)).length) * 16 ≤ _
      rw [Pth.dRows_len, List.length_map]; omega
    refine ⟨⟨rfl, trivial⟩, ?_⟩
    refine ⟨?_, ?_⟩
    · show ((([] : List (List CC)) ++ dRows (parts.map Pth.tD)).length + (dRows (t.map Pth.tD)).length) * 16 ≤ _
      rw [List.length_append, Pth.dRows_len, Pth.dRows_len, List.length_map, List.length_map]
      show (0 + parts.length + t.length) * 16 ≤ _
      omega
    refine ⟨trivial, ?_⟩
    refine ⟨trivial, ?_⟩
    exact ⟨_, _, View.of 4 [0] [3] rfl rfl rfl rfl rfl rfl (.eq rfl .nil) (.put (notF rfl) rfl (lnkC (t := t) (parts := parts) rfl) (.nil _)), _, _, _, rfl, .ok h6 rfl (by simp)⟩
set_option maxRecDepth 100000 in
theorem link_ok (l : List Ob) (base : Nat) (fence : Bool) (h a : Nat) (hh : h ≤ 6) (t : List Pth.Txt) (ht : t.length ≤ 1000) (s : Pth.Txt) {m : Mem} (id : Nat) (hb : nth m id = some (wkB l base fence h a t)) {K : CV → Mem → Prop}
    (hK : ∀ r h' a' t', LkR (Pth.splitS s) fence h a t r h' a' t' → K r (setN m id (wkB l base fence h' a' t'))) : ACall Tryd.prog 34 [.rv (.one (.ptr id 0)), Pth.vT s] m K :=
  wk_ok (args := [Pth.vT s]) (fun _ => rfl) (Q := LkR (Pth.splitS s) fence h a t) (fun r h a t hq σ => hq.data σ)
    (acall_view (acall_body Tryd.func34 l34 rfl (Nat.le_of_ble_eq_true rfl) (link_body l base fence h a hh t ht s)) fun r m1 ⟨r', m', hv, hq⟩ => ⟨r', m', hv, hq⟩) id hb hK

def c27 : LF := ⟨118, [.cell true 3 4, .tmp 5, .tmp 6], (.seq (.reg [
    ⟨(some 4), .alloc [(.dat (.val (.int .i64 (0)))), (.dat (.val (.int .i64 (0)))), (.dat (.val (.string ⟨#[]⟩)))], none⟩,
    ⟨(some 5), .mov (.c (.rv (.one (.dat (.val (.bool false)))))), none⟩,
    ⟨(some 6), .mov (.c (.rv (.one (.dat (.val (.int .i64 (0))))))), none⟩]) (.seq (.reg [
    ⟨(some 10), .mov (.t 0), none⟩,
    ⟨(some 11), .nilc (.t 10), none⟩,
    ⟨(some 12), .fadr 5 (.t 11), none⟩,
    ⟨(some 13), .load false 1 (.t 12), none⟩,
    ⟨(some 14), .idx 1 (.t 13) (.c (.rv (.one (.dat (.val (.int .i64 (0))))))), none⟩,
    ⟨(some 15), .load false 1 (.t 14), none⟩,
    ⟨(some 7), .mov (.t 15), none⟩]) (.seq (.reg [
    ⟨(some 16), .mov (.t 0), none⟩,
    ⟨(some 17), .mov (.t 0), none⟩,
    ⟨(some 18), .nilc (.t 17), none⟩,
    ⟨(some 19), .fadr 5 (.t 18), none⟩,
    ⟨(some 20), .load false 1 (.t 19), none⟩,
    ⟨(some 21), .slc 1 (.t 20) (some (.c (.rv (.one (.dat (.val (.int .i64 (1)))))))) none none, none⟩,
    ⟨(some 22), .nilc (.t 16), none⟩,
    ⟨(some 23), .fadr 5 (.t 22), none⟩,
    ⟨none, .store 1 (.t 23) (.t 21), none⟩]) (.seq (.seq (.draw [
    ⟨(some 24), .mov (.t 0), none⟩,
    ⟨(some 25), .nilc (.t 24), none⟩,
    ⟨(some 26), .fadr 0 (.t 25), none⟩,
    ⟨(some 27), .load false 1 (.t 26), none⟩,
    ⟨(some 28), .mov (.t 0), none⟩,
    ⟨(some 29), .nilc (.t 28), none⟩,
    ⟨(some 30), .fadr 4 (.t 29), none⟩,
    ⟨(some 31), .load false 1 (.t 30), none⟩,
    ⟨(some 32), .idx 9 (.t 27) (.t 31), none⟩,
    ⟨(some 33), .fadr 0 (.t 32), none⟩,
    ⟨(some 34), .load false 1 (.t 33), none⟩,
    ⟨(some 35), .bin .neq (.t 34) (.c (.rv (.one (.dat (.val (.int .i64 (2))))))), none⟩]
    [(.cons 0 none (.cons 1 none (.cons 2 none (.cons 3 none (.cons 4 none (.cons 5 none (.cons 6 none (.cons 7 none (.cons 8 none (.cons 9 none (.cons 10 none (.cons 11 none .nil))))))))))))]) (.cond (.t 35) (.seq (.reg [
    ⟨(some 36), .build [(.dat (.val (.int .i64 (0)))), (.dat (.val (.int .i64 (0)))), (.dat (.val (.string ⟨#[]⟩)))] [], none⟩,
    ⟨none, .store 3 (.t 4) (.t 36), none⟩,
    ⟨(some 5), .mov (.c (.rv (.one (.dat (.val (.bool false)))))), none⟩,
    ⟨(some 6), .mov (.c (.rv (.one (.dat (.val (.int .i64 (11))))))), none⟩]) .ret) .skip)) (.seq (.seq (.reg [
    ⟨(some 37), .mov (.t 7), none⟩,
    ⟨(some 38), .bin .eql (.t 37) (.c (.rv (.one (.dat (.val (.string ⟨#[46, 46]⟩)))))), none⟩]) (.cond (.t 38) (.seq (.seq (.reg [
    ⟨(some 39), .mov (.t 0), none⟩,
    ⟨(some 40), .call (.c (.rv (.one (.fn 32 [])))) [(.t 39)], none⟩,
    ⟨(some 41), .un .not (.t 40), none⟩]) (.cond (.t 41) (.seq (.reg [
    ⟨(some 42), .build [(.dat (.val (.int .i64 (0)))), (.dat (.val (.int .i64 (0)))), (.dat (.val (.string ⟨#[]⟩)))] [], none⟩,
    ⟨none, .store 3 (.t 4) (.t 42), none⟩,
    ⟨(some 5), .mov (.c (.rv (.one (.dat (.val (.bool false)))))), none⟩,
    ⟨(some 6), .mov (.c (.rv (.one (.dat (.val (.int .i64 (14))))))), none⟩]) .ret) .skip)) (.seq (.reg [
    ⟨(some 43), .build [(.dat (.val (.int .i64 (0)))), (.dat (.val (.int .i64 (0)))), (.dat (.val (.string ⟨#[]⟩)))] [], none⟩,
    ⟨none, .store 3 (.t 4) (.t 43), none⟩,
    ⟨(some 5), .mov (.c (.rv (.one (.dat (.val (.bool false)))))), none⟩,
    ⟨(some 6), .mov (.c (.rv (.one (.dat (.val (.int .i64 (0))))))), none⟩]) .ret)) .skip)) (.seq (.draw [
    ⟨(some 44), .mov (.t 0), none⟩,
    ⟨(some 45), .nilc (.t 44), none⟩,
    ⟨(some 46), .fadr 0 (.t 45), none⟩,
    ⟨(some 47), .load false 1 (.t 46), none⟩,
    ⟨(some 48), .mov (.t 0), none⟩,
    ⟨(some 49), .nilc (.t 48), none⟩,
    ⟨(some 50), .fadr 4 (.t 49), none⟩,
    ⟨(some 51), .load false 1 (.t 50), none⟩,
    ⟨(some 52), .mov (.t 7), none⟩,
    ⟨(some 53), .call (.c (.rv (.one (.fn 33 [])))) [(.t 47), (.t 51), (.t 52)], none⟩,
    ⟨(some 8), .mov (.t 53), none⟩]
    [(.cons 0 none (.cons 1 none (.cons 2 none (.cons 3 none (.cons 4 none (.cons 5 none (.cons 6 none (.cons 7 none (.cons 8 none (.cons 9 (some []) (.cons 10 none .nil)))))))))))]) (.seq (.reg [
    ⟨(some 54), .mov (.t 0), none⟩,
    ⟨(some 55), .nilc (.t 54), none⟩,
    ⟨(some 56), .fadr 5 (.t 55), none⟩,
    ⟨(some 57), .load false 1 (.t 56), none⟩,
    ⟨(some 58), .len 1 (.t 57), none⟩,
    ⟨(some 59), .bin .eql (.t 58) (.c (.rv (.one (.dat (.val (.int .i64 (0))))))), none⟩,
    ⟨(some 9), .mov (.t 59), none⟩]) (.seq (.block 0 (.seq (.reg [
    ⟨(some 61), .mov (.t 8), none⟩,
    ⟨(some 62), .bin .lss (.t 61) (.c (.rv (.one (.dat (.val (.int .i64 (0))))))), none⟩,
    ⟨(some 63), .mov (.t 62), none⟩,
    ⟨(some 64), .mov (.t 9), (some (63, true))⟩,
    ⟨(some 65), .pick (.t 63) (.t 64) (.c (.rv (.one (.dat (.val (.bool false)))))), none⟩,
    ⟨(some 60), .mov (.t 65), none⟩]) (.cond (.t 60) (.seq (.reg [
    ⟨(some 66), .mov (.t 0), none⟩,
    ⟨(some 67), .nilc (.t 66), none⟩,
    ⟨(some 68), .fadr 4 (.t 67), none⟩,
    ⟨(some 69), .load false 1 (.t 68), none⟩,
    ⟨(some 70), .mov (.t 7), none⟩,
    ⟨(some 71), .build [(.dat (.val (.int .i64 (0)))), (.dat (.val (.int .i64 (0)))), (.dat (.val (.string ⟨#[]⟩)))] [(0, 1, (.c (.rv (.one (.dat (.val (.int .i64 (-1)))))))), (1, 1, (.t 69)), (2, 1, (.t 70))], none⟩,
    ⟨none, .store 3 (.t 4) (.t 71), none⟩,
    ⟨(some 5), .mov (.c (.rv (.one (.dat (.val (.bool true)))))), none⟩,
    ⟨(some 6), .mov (.c (.rv (.one (.dat (.val (.int .i64 (0))))))), none⟩]) .ret) (.seq (.reg [
    ⟨(some 73), .mov (.t 8), none⟩,
    ⟨(some 74), .bin .lss (.t 73) (.c (.rv (.one (.dat (.val (.int .i64 (0))))))), none⟩,
    ⟨(some 72), .mov (.t 74), none⟩]) (.cond (.t 72) (.seq (.reg [
    ⟨(some 75), .build [(.dat (.val (.int .i64 (0)))), (.dat (.val (.int .i64 (0)))), (.dat (.val (.string ⟨#[]⟩)))] [], none⟩,
    ⟨none, .store 3 (.t 4) (.t 75), none⟩,
    ⟨(some 5), .mov (.c (.rv (.one (.dat (.val (.bool false)))))), none⟩,
    ⟨(some 6), .mov (.c (.rv (.one (.dat (.val (.int .i64 (6))))))), none⟩]) .ret) (.seq (.reg [
    ⟨(some 77), .mov (.t 0), none⟩,
    ⟨(some 78), .nilc (.t 77), none⟩,
    ⟨(some 79), .fadr 0 (.t 78), none⟩,
    ⟨(some 80), .load false 1 (.t 79), none⟩,
    ⟨(some 81), .mov (.t 8), none⟩,
    ⟨(some 82), .idx 9 (.t 80) (.t 81), none⟩,
    ⟨(some 83), .fadr 0 (.t 82), none⟩,
    ⟨(some 84), .load false 1 (.t 83), none⟩,
    ⟨(some 85), .bin .eql (.t 84) (.c (.rv (.one (.dat (.val (.int .i64 (3))))))), none⟩,
    ⟨(some 86), .mov (.t 85), none⟩,
    ⟨(some 87), .mov (.t 9), (some (86, true))⟩,
    ⟨(some 88), .un .not (.t 87), (some (86, true))⟩,
    ⟨(some 89), .mov (.t 88), (some (86, true))⟩,
    ⟨(some 90), .mov (.t 1), (some (89, false))⟩,
    ⟨(some 91), .pick (.t 89) (.c (.rv (.one (.dat (.val (.bool true)))))) (.t 90), (some (86, true))⟩,
    ⟨(some 92), .pick (.t 86) (.t 91) (.c (.rv (.one (.dat (.val (.bool false)))))), none⟩,
    ⟨(some 76), .mov (.t 92), none⟩]) (.cond (.t 76) (.seq (.reg [
    ⟨(some 93), .build [(.dat (.val (.int .i64 (0)))), (.dat (.val (.int .i64 (0)))), (.dat (.val (.string ⟨#[]⟩)))] [], none⟩,
    ⟨(some 94), .mov (.t 0), none⟩,
    ⟨(some 95), .mov (.t 0), none⟩,
    ⟨(some 96), .nilc (.t 95), none⟩,
    ⟨(some 97), .fadr 0 (.t 96), none⟩,
    ⟨(some 98), .load false 1 (.t 97), none⟩,
    ⟨(some 99), .mov (.t 8), none⟩,
    ⟨(some 100), .idx 9 (.t 98) (.t 99), none⟩,
    ⟨(some 101), .fadr 3 (.t 100), none⟩,
    ⟨(some 102), .load false 1 (.t 101), none⟩,
    ⟨(some 103), .call (.c (.rv (.one (.fn 34 [])))) [(.t 94), (.t 102)], none⟩,
    ⟨none, .store 3 (.t 4) (.t 93), none⟩,
    ⟨(some 5), .mov (.c (.rv (.one (.dat (.val (.bool false)))))), none⟩,
    ⟨(some 6), .mov (.t 103), none⟩]) .ret) (.seq (.reg [
    ⟨(some 105), .mov (.t 9), none⟩,
    ⟨(some 104), .mov (.t 105), none⟩]) (.cond (.t 104) (.seq (.reg [
    ⟨(some 106), .mov (.t 8), none⟩,
    ⟨(some 107), .mov (.t 0), none⟩,
    ⟨(some 108), .nilc (.t 107), none⟩,
    ⟨(some 109), .fadr 4 (.t 108), none⟩,
    ⟨(some 110), .load false 1 (.t 109), none⟩,
    ⟨(some 111), .mov (.t 7), none⟩,
    ⟨(some 112), .build [(.dat (.val (.int .i64 (0)))), (.dat (.val (.int .i64 (0)))), (.dat (.val (.string ⟨#[]⟩)))] [(0, 1, (.t 106)), (1, 1, (.t 110)), (2, 1, (.t 111))], none⟩,
    ⟨none, .store 3 (.t 4) (.t 112), none⟩,
    ⟨(some 5), .mov (.c (.rv (.one (.dat (.val (.bool true)))))), none⟩,
    ⟨(some 6), .mov (.c (.rv (.one (.dat (.val (.int .i64 (0))))))), none⟩]) .ret) .skip))))))))) (.seq (.reg [
    ⟨(some 113), .mov (.t 0), none⟩,
    ⟨(some 114), .mov (.t 8), none⟩,
    ⟨(some 115), .nilc (.t 113), none⟩,
    ⟨(some 116), .fadr 4 (.t 115), none⟩,
    ⟨none, .store 1 (.t 116) (.t 114), none⟩]) (.seq (.reg [
    ⟨(some 117), .build [(.dat (.val (.int .i64 (0)))), (.dat (.val (.int .i64 (0)))), (.dat (.val (.string ⟨#[]⟩)))] [], none⟩,
    ⟨none, .store 3 (.t 4) (.t 117), none⟩,
    ⟨(some 5), .mov (.c (.rv (.one (.dat (.val (.bool false)))))), none⟩,
    ⟨(some 6), .mov (.c (.rv (.one (.dat (.val (.int .i64 (0))))))), none⟩]) .ret))))))))))⟩
/-! the walker: step -/
theorem l27 : lowF Tryd.prog Tryd.f27 = some c27 := by kernel_rfl
/-- what is done at a link -/
def recS (l : List Ob) (base : Nat) (fence follow : Bool) : Nat → Nat → List Pth.Txt → Nat → R4
  | 0 => fun _ _ _ => R4.no 13
  | n + 1 => lnk l fence (wkS l base fence follow n)
theorem wkS_eq (l : List Ob) (base : Nat) (fence follow : Bool) (n : Nat) : wkS l base fence follow n = wk1 l base fence follow (recS l base fence follow n) := by
  cases n <;> rfl
def r4C (r : R4) : List Dt := [.val (.int .i64 r.obj), .val (.int .i64 r.dir), .val (.string (Pth.bysL r.name))]
def stV (r : R4) (ok : Bool) : CV := .tup [.agg ((r4C r).map .dat), .one (.dat (.val (.bool ok))), .one (.dat (.val (.int .i64 r.err)))]
inductive StR (l : List Ob) (base : Nat) (fence follow : Bool) (h a : Nat) (s : Pth.Txt) (t : List Pth.Txt) : CV → Nat → Nat → List Pth.Txt → Prop
  | done (r : R4) (ok : Bool) (h' a' : Nat) (t' : List Pth.Txt) (hd : ok = true ∨ r.err ≠ 0) (he : wkS l base fence follow (6 - h) (s :: t) a = r) : StR l base fence follow h a s t (stV r ok) h' a' t'
  | go (h' a' : Nat) (t' : List Pth.Txt) (he : wkS l base fence follow (6 - h) (s :: t) a = wkS l base fence follow (6 - h') t' a') (ha : a' < l.length) (hm : h' = h ∧ t' = t ∨ h' = h + 1 ∧ h < 6 ∧ t'.length ≤ 61 + t.length) : StR l base fence follow h a s t (stV (R4.no 0) false) h' a' t'
theorem StR.data {l : List Ob} {base : Nat} {fence follow : Bool} {h a : Nat} {s : Pth.Txt} {t : List Pth.Txt} {r : CV} {h' a' : Nat} {t' : List Pth.Txt} (x : StR l base fence follow h a s t r h' a' t') (σ : Nat → Nat) : r.ren σ = r := by cases x <;> rfl
theorem txd_cons (s : Pth.Txt) (t : List Pth.Txt) : (Pth.txD (s :: t)) = .sl 1 (Pth.tD s :: t.map Pth.tD) := rfl
theorem lenT (t : List Pth.Txt) : ((t.map Pth.tD).length : Int) = t.length := by rw [List.length_map]
set_option maxRecDepth 100000 in
set_option maxHeartbeats 8000000 in
theorem step_body (l : List Ob) (ok : LkOK l) (base : Nat) (fence follow : Bool) (h a : Nat) (hh : h ≤ 6) (ha : a < l.length) (s : Pth.Txt) (t : List Pth.Txt) (ht : t.length ≤ 1000) :
    body Tryd.prog c27 [.rv (.one (.ptr 0 0)), vBool follow] [wkB l base fence h a (s :: t)] (TV1 fun r m => ∃ h' a' t', m = [wkB l base fence h' a' t'] ∧ StR l base fence follow h a s t r h' a' t') := by
  have hg := obj_getB ha
  have hw := wkS_eq l base fence follow (6 - h)
  have hS : ∀ r, wk1 l base fence follow (recS l base fence follow (6 - h)) (s :: t) a = r → wkS l base fence follow (6 - h) (s :: t) a = r := fun r e => by rw [hw]; exact e
  refine bB_yes (by rw [Bool.and_eq_true, Nat.ble_eq, Nat.ble_eq, List.length_map, List.length_cons]; exact ⟨Nat.succ_le_succ (Nat.zero_le _), Nat.le_refl _⟩) ?_
  rw [show List.drop 1 (List.take (List.map Pth.tD (s :: t)).length (List.map Pth.tD (s :: t))) = t.map Pth.tD by rw [List.take_length]; rfl]
  refine ok_some hg ?_
  refine bB_bne (fun h1 => ?_) (fun h1 => ?_)
  · exact ⟨_, _, wkV (fun _ => rfl), _, _, _, rfl, .done (R4.no 11) false _ _ _ (.inr (by simp [R4.no])) (hS _ (by rw [wk1, if_pos (by rw [oAt_eq ha]; exact h1)]))⟩
  have h1 : l[a].kind = 2 := by simpa using h1
  have hk2 : ¬ (oAt l a).kind ≠ 2 := by rw [oAt_eq ha, h1]; simp
  refine Pth.bB_str (b := [46, 46]) (fun h2 => ?_) (fun h2 => ?_)
  · subst h2
    refine up_ok l ok base fence h a ha t 0 rfl (fun h3 => ?_) (fun h3 => ?_)
    · exact ⟨_, _, wkV (fun _ => rfl), _, _, _, rfl, .done (R4.no 14) false _ _ _ (.inr (by simp [R4.no])) (hS _ (by rw [wk1, if_neg hk2, if_pos rfl, if_pos h3]))⟩
    · exact ⟨_, _, wkV (fun _ => rfl), _, _, _, rfl, .go h (upN l a) t (hS _ (by rw [wk1, if_neg hk2, if_pos rfl, if_neg h3, hw])) (ok.upN_lt a) (.inl ⟨rfl, rfl⟩)⟩
  refine sfind_ok l ok a ha h1 s ?_
  refine ⟨trivial, ?_⟩
  have hf := ok.fnd_lt a s
  have hneg : fnd l a s < 0 → fnd l a s = -1 := fun h => by
    rcases findS_OK (entsO (oAt l a)) (Pth.bysL s) with ⟨e, he, _, h3⟩ | ⟨h3, _⟩
    · have := (ok.ents a).2.1 e he
      rw [fnd, h3] at h
      omega
    · exact h3
  have hW : ∀ r, (if fnd l a s < 0 then (if t ≠ [] then R4.no 6 else ⟨-1, a, s, 0⟩) else if (oAt l (fnd l a s).toNat).kind = 3 ∧ (follow = true ∨ t ≠ []) then recS l base fence follow (6 - h) a t (fnd l a s).toNat
    else if t = [] then ⟨fnd l a s, a, s, 0⟩ else wk1 l base fence follow (recS l base fence follow (6 - h)) t (fnd l a s).toNat) = r → wkS l base fence follow (6 - h) (s :: t) a = r := fun r e => hS r (by rw [wk1, if_neg hk2, if_neg h2]; exact e)
  refine bB_dec (fun h3 => ?_) (fun h3 => ?_)
  · refine bB_beq (fun h4 => ?_) (fun h4 => ?_)
    · rw [lenT] at h4
      have h4 : t = [] := List.eq_nil_of_length_eq_zero (by omega)
      exact ⟨_, _, wkV (fun _ => rfl), _, _, _, rfl, .done ⟨-1, a, s, 0⟩ true _ _ _ (.inl rfl) (hW _ (by rw [if_pos h3, if_neg (by simp [h4])]))⟩
    · rw [lenT] at h4
      have h4 : t ≠ [] := fun e => h4 (by rw [e]; rfl)
      refine bB_yes (decide_eq_true h3) ?_
      exact ⟨_, _, wkV (fun _ => rfl), _, _, _, rfl, .done (R4.no 6) false _ _ _ (.inr (by simp [R4.no])) (hW _ (by rw [if_pos h3, if_pos h4]))⟩
  obtain ⟨k, hfk, hk⟩ := hf h3
  rw [if_neg h3] at hW
  refine bB_no (decide_eq_false h3) ?_
  rw [hfk, Int.toNat_natCast, oAt_eq hk] at hW
  have hgk := obj_getB hk
  have htg : l[k].target = Pth.bysL (tgt l k) := by
    obtain ⟨tg, e⟩ := Pth.bysL_of l[k].target
    rw [tgt, oAt_eq hk, e]
    rfl
  rw [htg] at hgk
  rw [hfk]
  have fin1 : ¬ (l[k].kind = 3 ∧ (follow = true ∨ t ≠ [])) → ∀ r, (if t = [] then ⟨(k : Int), a, s, 0⟩ else wk1 l base fence follow (recS l base fence follow (6 - h)) t k) = r → wkS l base fence follow (6 - h) (s :: t) a = r := fun hn r e => hW r (by rw [if_neg hn]; exact e)
  refine ok_some hgk ?_
  refine bB_beq (fun h6 => ?_) (fun h6 => ?_)
  · have h6 : l[k].kind = 3 := h6
    have lnkQ : (follow = true ∨ t ≠ []) → ∀ r h' a' t', LkR (Pth.splitS (tgt l k)) fence h a t r h' a' t' → ∃ e, r = vInt .i64 e ∧ StR l base fence follow h a s t (stV (R4.no e) false) h' a' t' := by
      intro hor
      rw [if_pos ⟨h6, hor⟩] at hW
      intro r h' a' t' hq
      cases hq with
      | loop _ _ _ e6 => exact ⟨13, rfl, .done (R4.no 13) false _ _ _ (.inr (by simp [R4.no])) (hW _ (by rw [e6]; rfl))⟩
      | err _ _ _ e6 he => exact ⟨_, rfl, .done (R4.no _) false _ _ _ (.inr he) (hW _ (by rw [show 6 - h = (5 - h) + 1 by omega]; show lnk _ _ _ _ _ _ = _; rw [lnk, if_pos he]))⟩
      | out _ _ _ e6 he hr hf' => exact ⟨14, rfl, .done (R4.no 14) false _ _ _ (.inr (by simp [R4.no])) (hW _ (by rw [show 6 - h = (5 - h) + 1 by omega]; show lnk _ _ _ _ _ _ = _; rw [lnk, if_neg (by simp [he]), if_pos ⟨hr, hf'⟩]))⟩
      | ok e6 he hr => exact ⟨0, rfl, .go _ _ _ (hW _ (by rw [show 6 - h = (5 - h) + 1 by omega]; show lnk _ _ _ _ _ _ = _; rw [lnk, if_neg (by simp [he]), if_neg hr, show 6 - (h + 1) = 5 - h by omega])) (by split; exact ok.pos; exact ha) (.inr ⟨rfl, by omega, by rw [List.length_append]; have := splitS_len (tgt l k); omega⟩)⟩
    refine bB_split (fun h5 => ?_) (fun h5 => ?_)
    · have h5 : t ≠ [] := fun e => by subst e; cases h5
      refine ok_some hgk ?_
      refine link_ok l base fence h a hh t ht (tgt l k) 0 rfl fun r h' a' t' hq => ?_
      obtain ⟨e, rfl, hq2⟩ := lnkQ (.inr h5) _ _ _ _ hq
      exact ⟨_, _, wkV (fun _ => rfl), _, _, _, rfl, hq2⟩
    · have h5 : t = [] := by
        cases t with
        | nil => rfl
        | cons x r => cases h5
      cases follow with
      | true =>
        refine ok_some hgk ?_
        refine link_ok l base fence h a hh t ht (tgt l k) 0 rfl fun r h' a' t' hq => ?_
        obtain ⟨e, rfl, hq2⟩ := lnkQ (.inl rfl) _ _ _ _ hq
        exact ⟨_, _, wkV (fun _ => rfl), _, _, _, rfl, hq2⟩
      | false =>
        have fin := fin1 (by rw [h5]; simp)
        rw [if_pos h5] at fin
        subst h5
        exact ⟨_, _, wkV (fun _ => rfl), _, _, _, rfl, .done ⟨(k : Nat), a, s, 0⟩ true _ _ _ (.inl rfl) (fin _ rfl)⟩
  · have h6 : l[k].kind ≠ 3 := h6
    have fin := fin1 (fun h => h6 h.1)
    refine bB_beq (fun h7 => ?_) (fun h7 => ?_)
    · rw [lenT] at h7
      have h7 : t = [] := List.eq_nil_of_length_eq_zero (by omega)
      rw [if_pos h7] at fin
      exact ⟨_, _, wkV (fun _ => rfl), _, _, _, rfl, .done ⟨(k : Nat), a, s, 0⟩ true _ _ _ (.inl rfl) (fin _ rfl)⟩
    · rw [lenT] at h7
      have h7 : t ≠ [] := fun e => h7 (by rw [e]; rfl)
      rw [if_neg h7, ← hw] at fin
      exact ⟨_, _, wkV (fun _ => rfl), _, _, _, rfl, .go h k t (fin _ rfl) hk (.inl ⟨rfl, rfl⟩)⟩
set_option maxRecDepth 100000 in
theorem step_ok (l : List Ob) (ok : LkOK l) (base : Nat) (fence follow : Bool) (h a : Nat) (hh : h ≤ 6) (ha : a < l.length) (s : Pth.Txt) (t : List Pth.Txt) (ht : t.length ≤ 1000) {m : Mem} (id : Nat) (hb : nth m id = some (wkB l base fence h a (s :: t))) {K : CV → Mem → Prop}
    (hK : ∀ r h' a' t', StR l base fence follow h a s t r h' a' t' → K r (setN m id (wkB l base fence h' a' t'))) : ACall Tryd.prog 27 [.rv (.one (.ptr id 0)), vBool follow] m K :=
  wk_ok (args := [vBool follow]) (fun _ => rfl) (Q := StR l base fence follow h a s t) (fun r h a t hq σ => hq.data σ)
    (acall_view (acall_body Tryd.func27 l27 rfl (Nat.le_of_ble_eq_true rfl) (step_body l ok base fence follow h a hh ha s t ht)) fun r m1 ⟨r', m', hv, hq⟩ => ⟨r', m', hv, hq⟩) id hb hK

def c9 : LF := ⟨102, [.cell true 3 10, .tmp 11], (.seq (.reg [
    ⟨(some 10), .alloc [(.dat (.val (.int .i64 (0)))), (.dat (.val (.int .i64 (0)))), (.dat (.val (.string ⟨#[]⟩)))], none⟩,
    ⟨(some 11), .mov (.c (.rv (.one (.dat (.val (.int .i64 (0))))))), none⟩]) (.seq (.seq (.reg [
    ⟨(some 19), .mov (.t 1), none⟩,
    ⟨(some 20), .bin .lss (.t 19) (.c (.rv (.one (.dat (.val (.int .i64 (0))))))), none⟩,
    ⟨(some 21), .mov (.t 20), none⟩,
    ⟨(some 22), .mov (.t 1), (some (21, false))⟩,
    ⟨(some 23), .mov (.t 0), (some (21, false))⟩,
    ⟨(some 24), .len 1 (.t 23), (some (21, false))⟩,
    ⟨(some 25), .bin .geq (.t 22) (.t 24), (some (21, false))⟩,
    ⟨(some 26), .pick (.t 21) (.c (.rv (.one (.dat (.val (.bool true)))))) (.t 25), none⟩,
    ⟨(some 27), .mov (.t 26), none⟩,
    ⟨(some 28), .mov (.t 0), (some (27, false))⟩,
    ⟨(some 29), .mov (.t 1), (some (27, false))⟩,
    ⟨(some 30), .idx 9 (.t 28) (.t 29), (some (27, false))⟩,
    ⟨(some 31), .fadr 0 (.t 30), (some (27, false))⟩,
    ⟨(some 32), .load false 1 (.t 31), (some (27, false))⟩,
    ⟨(some 33), .bin .eql (.t 32) (.c (.rv (.one (.dat (.val (.int .i64 (0))))))), (some (27, false))⟩,
    ⟨(some 34), .pick (.t 27) (.c (.rv (.one (.dat (.val (.bool true)))))) (.t 33), none⟩]) (.cond (.t 34) (.seq (.reg [
    ⟨(some 35), .build [(.dat (.val (.int .i64 (0)))), (.dat (.val (.int .i64 (0)))), (.dat (.val (.string ⟨#[]⟩)))] [], none⟩,
    ⟨none, .store 3 (.t 10) (.t 35), none⟩,
    ⟨(some 11), .mov (.c (.rv (.one (.dat (.val (.int .i64 (6))))))), none⟩]) .ret) .skip)) (.seq (.seq (.reg [
    ⟨(some 36), .mov (.t 0), none⟩,
    ⟨(some 37), .mov (.t 1), none⟩,
    ⟨(some 38), .idx 9 (.t 36) (.t 37), none⟩,
    ⟨(some 39), .fadr 0 (.t 38), none⟩,
    ⟨(some 40), .load false 1 (.t 39), none⟩,
    ⟨(some 41), .bin .neq (.t 40) (.c (.rv (.one (.dat (.val (.int .i64 (2))))))), none⟩]) (.cond (.t 41) (.seq (.reg [
    ⟨(some 42), .build [(.dat (.val (.int .i64 (0)))), (.dat (.val (.int .i64 (0)))), (.dat (.val (.string ⟨#[]⟩)))] [], none⟩,
    ⟨none, .store 3 (.t 10) (.t 42), none⟩,
    ⟨(some 11), .mov (.c (.rv (.one (.dat (.val (.int .i64 (11))))))), none⟩]) .ret) .skip)) (.seq (.reg [
    ⟨(some 44), .mov (.t 2), none⟩,
    ⟨(some 45), .call (.c (.rv (.one (.fn 26 [])))) [(.t 44)], none⟩,
    ⟨(some 43), .mov (.t 45), none⟩,
    ⟨(some 46), .ext (.t 43) 0, none⟩,
    ⟨(some 47), .ext (.t 43) 1, none⟩,
    ⟨(some 48), .ext (.t 43) 2, none⟩,
    ⟨(some 12), .mov (.t 46), none⟩,
    ⟨(some 13), .mov (.t 47), none⟩,
    ⟨(some 14), .mov (.t 48), none⟩]) (.seq (.seq (.reg [
    ⟨(some 49), .mov (.t 14), none⟩,
    ⟨(some 50), .bin .neq (.t 49) (.c (.rv (.one (.dat (.val (.int .i64 (0))))))), none⟩]) (.cond (.t 50) (.seq (.reg [
    ⟨(some 51), .build [(.dat (.val (.int .i64 (0)))), (.dat (.val (.int .i64 (0)))), (.dat (.val (.string ⟨#[]⟩)))] [], none⟩,
    ⟨(some 52), .mov (.t 14), none⟩,
    ⟨none, .store 3 (.t 10) (.t 51), none⟩,
    ⟨(some 11), .mov (.t 52), none⟩]) .ret) .skip)) (.seq (.reg [
    ⟨(some 53), .mov (.t 0), none⟩,
    ⟨(some 54), .mov (.t 1), none⟩,
    ⟨(some 55), .mov (.t 3), none⟩,
    ⟨(some 56), .mov (.t 1), none⟩,
    ⟨(some 57), .mov (.t 12), none⟩,
    ⟨(some 58), .build [.esl, (.dat (.val (.int .i64 (0)))), (.dat (.val (.bool false))), (.dat (.val (.int .i64 (0)))), (.dat (.val (.int .i64 (0)))), .esl] [(0, 1, (.t 53)), (1, 1, (.t 54)), (2, 1, (.t 55)), (4, 1, (.t 56)), (5, 1, (.t 57))], none⟩,
    ⟨(some 59), .box (.t 58), none⟩,
    ⟨(some 15), .mov (.t 59), none⟩]) (.seq (.seq (.reg [
    ⟨(some 60), .mov (.t 13), none⟩]) (.cond (.t 60) (.seq (.seq (.reg [
    ⟨(some 61), .mov (.t 3), none⟩]) (.cond (.t 61) (.seq (.reg [
    ⟨(some 62), .build [(.dat (.val (.int .i64 (0)))), (.dat (.val (.int .i64 (0)))), (.dat (.val (.string ⟨#[]⟩)))] [], none⟩,
    ⟨none, .store 3 (.t 10) (.t 62), none⟩,
    ⟨(some 11), .mov (.c (.rv (.one (.dat (.val (.int .i64 (14))))))), none⟩]) .ret) .skip)) (.reg [
    ⟨(some 63), .mov (.t 15), none⟩,
    ⟨(some 64), .nilc (.t 63), none⟩,
    ⟨(some 65), .fadr 4 (.t 64), none⟩,
    ⟨none, .store 1 (.t 65) (.c (.rv (.one (.dat (.val (.int .i64 (0))))))), none⟩])) .skip)) (.ghost (.seq (.block 0 (.loop (.seq (.seq (.reg [
    ⟨(some 66), .mov (.t 15), none⟩,
    ⟨(some 67), .nilc (.t 66), none⟩,
    ⟨(some 68), .fadr 5 (.t 67), none⟩,
    ⟨(some 69), .load false 1 (.t 68), none⟩,
    ⟨(some 70), .len 1 (.t 69), none⟩,
    ⟨(some 71), .bin .gtr (.t 70) (.c (.rv (.one (.dat (.val (.int .i64 (0))))))), none⟩]) (.cond (.t 71) .skip (.exit 0))) (.block 1 (.seq (.reg [
    ⟨(some 73), .mov (.t 15), none⟩,
    ⟨(some 74), .mov (.t 4), none⟩,
    ⟨(some 75), .call (.c (.rv (.one (.fn 27 [])))) [(.t 73), (.t 74)], none⟩,
    ⟨(some 72), .mov (.t 75), none⟩,
    ⟨(some 76), .ext (.t 72) 0, none⟩,
    ⟨(some 77), .ext (.t 72) 1, none⟩,
    ⟨(some 78), .ext (.t 72) 2, none⟩,
    ⟨(some 16), .alloc [(.dat (.val (.int .i64 (0)))), (.dat (.val (.int .i64 (0)))), (.dat (.val (.string ⟨#[]⟩)))], none⟩,
    ⟨none, .store 3 (.t 16) (.t 76), none⟩,
    ⟨(some 17), .mov (.t 77), none⟩,
    ⟨(some 18), .mov (.t 78), none⟩]) (.seq (.reg [
    ⟨(some 79), .mov (.t 17), none⟩,
    ⟨(some 80), .mov (.t 79), none⟩,
    ⟨(some 81), .mov (.t 18), (some (80, false))⟩,
    ⟨(some 82), .bin .neq (.t 81) (.c (.rv (.one (.dat (.val (.int .i64 (0))))))), (some (80, false))⟩,
    ⟨(some 83), .pick (.t 80) (.c (.rv (.one (.dat (.val (.bool true)))))) (.t 82), none⟩]) (.cond (.t 83) (.seq (.reg [
    ⟨(some 84), .load true 3 (.t 16), none⟩,
    ⟨(some 85), .mov (.t 18), none⟩,
    ⟨none, .store 3 (.t 10) (.t 84), none⟩,
    ⟨(some 11), .mov (.t 85), none⟩]) .ret) .skip))))))) (.seq (.draw [
    ⟨(some 86), .mov (.t 15), none⟩,
    ⟨(some 87), .nilc (.t 86), none⟩,
    ⟨(some 88), .fadr 4 (.t 87), none⟩,
    ⟨(some 89), .load false 1 (.t 88), none⟩,
    ⟨(some 90), .mov (.t 15), none⟩,
    ⟨(some 91), .nilc (.t 90), none⟩,
    ⟨(some 92), .fadr 0 (.t 91), none⟩,
    ⟨(some 93), .load false 1 (.t 92), none⟩,
    ⟨(some 94), .mov (.t 15), none⟩,
    ⟨(some 95), .nilc (.t 94), none⟩,
    ⟨(some 96), .fadr 4 (.t 95), none⟩,
    ⟨(some 97), .load false 1 (.t 96), none⟩,
    ⟨(some 98), .idx 9 (.t 93) (.t 97), none⟩,
    ⟨(some 99), .fadr 8 (.t 98), none⟩,
    ⟨(some 100), .load false 1 (.t 99), none⟩,
    ⟨(some 101), .build [(.dat (.val (.int .i64 (0)))), (.dat (.val (.int .i64 (0)))), (.dat (.val (.string ⟨#[]⟩)))] [(0, 1, (.t 89)), (1, 1, (.t 100))], none⟩,
    ⟨none, .store 3 (.t 10) (.t 101), none⟩,
    ⟨(some 11), .mov (.c (.rv (.one (.dat (.val (.int .i64 (0))))))), none⟩]
    [(.cons 0 none (.cons 1 none (.cons 2 none (.cons 3 none (.cons 4 none (.cons 5 none (.cons 6 none (.cons 7 none (.cons 8 none (.cons 9 none (.cons 10 none (.cons 11 none (.cons 12 none (.cons 13 none (.cons 14 none (.cons 15 none (.cons 16 (some []) (.cons 17 none .nil))))))))))))))))))]) .ret))))))))))⟩
/-! look.Path -/
theorem l9 : lowF Tryd.prog Tryd.f9 = some c9.er := by kernel_rfl
def lkV (r : R4) : CV := .tup [.agg ((r4C r).map .dat), .one (.dat (.val (.int .i64 r.err)))]
theorem lkV_D (r : R4) : (lkV r).isDT = true := rfl
structure StP where
  h : Nat
  a : Nat
  t : List Pth.Txt
theorem wkS_nil (l : List Ob) (base : Nat) (fence follow : Bool) (n a : Nat) : wkS l base fence follow n [] a = ⟨a, upN l a, [], 0⟩ := by
  cases n <;> rfl
def G9 : LC := unG (sndS (sndS (sndS (sndS (sndS (sndS (sndS c9.code)))))))
def z3R : Bk := .var ((r4C (R4.no 0)).map .dat)
set_option maxRecDepth 100000 in
set_option maxHeartbeats 8000000 in
theorem path_seg (l : List Ob) (ok : LkOK l) (b : Nat) (fence follow : Bool) (a0 : Nat) (ha0 : a0 < l.length) (parts : List Pth.Txt) (hp : parts.length ≤ 61) :
    aw Tryd.prog 0 G9 (endK Tryd.prog c9.res (fun r m => r = lkV (wkS l b fence follow 6 parts a0))) ⟨mkE 102 [(0, obsV l), (4, vBool follow), (10, .rv (.one (.ptr 0 0))), (15, .rv (.one (.ptr 1 0)))], [z3R, wkB l b fence 0 a0 parts]⟩ := by
  refine loop_keep (fun a : StP => a.h ≤ 6 ∧ a.a < l.length ∧ a.t.length ≤ 61 * (a.h + 1) ∧ wkS l b fence follow (6 - a.h) a.t a.a = wkS l b fence follow 6 parts a0) [0, 4, 10, 15] (fun _ => []) (fun a => [z3R, wkB l b fence a.h a.a a.t]) (fun a => (6 - a.h) * 1000 + a.t.length) ⟨0, a0, parts⟩ ⟨Nat.zero_le _, ha0, by simpa using hp, rfl⟩ ?_ (fun a ha => ?_)
  · refine View.of 2 [0, 1] [] rfl rfl rfl rfl rfl rfl ?_ (.put (notF rfl) rfl (.eq rfl (by intro x; cases x)) (.put (notF rfl) rfl (.eq rfl (wkB_ne _ _ _ _ _ _)) (.nil _)))
    repeat (first | exact .nil | refine .junk ?_ | refine .eq rfl ?_)
  obtain ⟨h, a, t⟩ := a
  obtain ⟨hh, ha, ht, he⟩ := ha
  have hh : h ≤ 6 := hh
  have ha : a < l.length := ha
  have ht : t.length ≤ 61 * (h + 1) := ht
  have he : wkS l b fence follow (6 - h) t a = wkS l b fence follow 6 parts a0 := he
  refine bB_dec (fun h1 => ?_) (fun h1 => ?_)
  · have h1 : ((t.map Pth.tD).length : Int) > 0 := h1
    rw [lenT] at h1
    obtain ⟨s, t', rfl⟩ : ∃ s t', t = s :: t' := by
      cases t with
      | nil => simp at h1
      | cons s t' => exact ⟨s, t', rfl⟩
    have ht : t'.length + 1 ≤ 61 * (h + 1) := by simpa using ht
    refine step_ok l ok b fence follow h a hh ha s t' (by omega) 1 rfl fun r h' a' t'' hq => ?_
    cases hq with
    | done r okk h' a' t'' hd hr =>
      rw [← he, hr]
      cases okk with
      | true => exact rfl
      | false =>
        have hd : r.err ≠ 0 := by simpa using hd
        refine bB_bne (fun h2 => ?_) (fun h2 => ?_)
        · exact rfl
        · exact absurd h2 hd
    | go h' a' t'' hr ha' hm =>
      refine ⟨⟨h', a', t''⟩, ⟨?_, ha', ?_, hr.symm.trans he⟩, ?_, View.of 3 [0, 1] [] rfl rfl rfl rfl rfl rfl ?_ (.put (notF rfl) rfl (.eq rfl (by intro x; cases x)) (.put (notF rfl) rfl (.eq rfl (wkB_ne _ _ _ _ _ _)) (.nil _)))⟩
      · show h' ≤ 6
        omega
      · show t''.length ≤ 61 * (h' + 1)
        rcases hm with ⟨rfl, rfl⟩ | ⟨rfl, h6, hl⟩
        · omega
        · omega
      · show (6 - h') * 1000 + t''.length < (6 - h) * 1000 + (s :: t').length
        rw [List.length_cons]
        rcases hm with ⟨rfl, rfl⟩ | ⟨rfl, h6, hl⟩
        · omega
        · omega
      · repeat (first | exact .nil | refine .junk ?_ | refine .eq rfl ?_)
  · have h1 : ¬ ((t.map Pth.tD).length : Int) > 0 := h1
    rw [lenT] at h1
    have h1 : t = [] := List.eq_nil_of_length_eq_zero (by omega)
    subst h1
    rw [wkS_nil] at he
    refine ok_some (obj_getB ha) ?_
    refine ⟨trivial, ?_⟩
    rw [← he, ok.upN_eq ha]
    exact rfl
set_option maxRecDepth 100000 in
set_option maxHeartbeats 8000000 in
theorem path_body (l : List Ob) (ok : LkOK l) (base : Int) (s : Pth.Txt) (fence follow : Bool) : body Tryd.prog c9 [obsV l, vInt .i64 base, Pth.vT s, vBool fence, vBool follow] [] (fun r m => r = lkV (lookS l base s fence follow)) := by
  have hno : isSB l base 0 = false → lookS l base s fence follow = R4.no 6 := fun h => by rw [lookS, h]; rfl
  refine bB_dec (fun h1 => ?_) (fun h1 => ?_)
  · rw [hno (by rw [isSB, decide_eq_false (by omega)]; rfl)]; rfl
  obtain ⟨b, rfl⟩ : ∃ b : Nat, base = b := ⟨base.toNat, by omega⟩
  refine bB_dec (fun h2 => ?_) (fun h2 => ?_)
  · have h2 : (b : Int) ≥ ((l.map Ob.enc).length : Int) := h2
    rw [List.length_map] at h2
    rw [hno (by rw [isSB, decide_eq_false (p := (b : Int) < l.length) (by omega)]; simp)]; rfl
  have h2 : ¬ (b : Int) ≥ ((l.map Ob.enc).length : Int) := h2
  rw [List.length_map] at h2
  have hb : b < l.length := by omega
  have hg := obj_getB hb
  refine ok_some hg ?_
  refine bB_beq (fun h3 => ?_) (fun h3 => ?_)
  · have h3 : l[b].kind = 0 := h3
    rw [hno (by unfold isSB; rw [Int.toNat_natCast, List.getElem?_eq_getElem hb]; simp [h3])]; rfl
  have h3 : l[b].kind ≠ 0 := h3
  have hI : isSB l b 0 = true := by unfold isSB; rw [Int.toNat_natCast, List.getElem?_eq_getElem hb]; simp [h3, hb]
  have hL : ∀ r, (if l[b].kind ≠ 2 then R4.no 11 else if (Pth.splitS s).2.2 ≠ 0 then R4.no (Pth.splitS s).2.2 else if (Pth.splitS s).2.1 = true ∧ fence = true then R4.no 14
    else wkS l b fence follow 6 (Pth.splitS s).1 (if (Pth.splitS s).2.1 = true then 0 else b)) = r → lookS l b s fence follow = r := fun r e => by
    rw [lookS, if_pos hI, Int.toNat_natCast, oAt_eq hb]; exact e
  refine ok_some hg ?_
  refine bB_bne (fun h4 => ?_) (fun h4 => ?_)
  · rw [hL _ (if_pos h4)]; rfl
  have h4 : l[b].kind = 2 := by simpa using h4
  rw [if_neg (by rw [h4]; simp)] at hL
  refine Pth.split_ok s ?_
  have hp := splitS_len s
  generalize Pth.splitS s = p at hp hL ⊢
  obtain ⟨parts, root, er⟩ := p
  have hp : parts.length ≤ 61 := hp
  refine bB_bne (fun h5 => ?_) (fun h5 => ?_)
  · rw [hL _ (if_pos h5)]; rfl
  have h5 : er = 0 := by simpa using h5
  rw [if_neg (by simp [h5])] at hL
  have view : ∀ a0 : Nat, ∀ e, EnvVw (sg [0, 1] 2) [z3R, wkB l b fence 0 a0 parts] (fun k => memN [] k = true) e (mkE 102 [(0, obsV l), (4, vBool follow), (10, .rv (.one (.ptr 0 0))), (15, .rv (.one (.ptr 1 0)))]) →
      View 0 ⟨e, [z3R, wkB l b fence 0 a0 parts]⟩ ⟨mkE 102 [(0, obsV l), (4, vBool follow), (10, .rv (.one (.ptr 0 0))), (15, .rv (.one (.ptr 1 0)))], [z3R, wkB l b fence 0 a0 parts]⟩ := fun a0 e he =>
    View.of 2 [0, 1] [] rfl rfl rfl rfl rfl rfl he (.put (notF rfl) rfl (.eq rfl (by intro x; cases x)) (.put (notF rfl) rfl (.eq rfl (wkB_ne _ _ _ _ _ _)) (.nil _)))
  cases root with
  | true =>
    cases fence with
    | true =>
      rw [hL _ (if_pos ⟨rfl, rfl⟩)]; rfl
    | false =>
      rw [hL _ (by rw [if_neg (by simp), if_pos rfl])]
      refine ⟨_, view 0 _ ?_, path_seg l ok b false follow 0 ok.pos parts hp⟩
      repeat (first | exact .nil | refine .junk ?_ | refine .eq rfl ?_)
  | false =>
    rw [hL _ (by rw [if_neg (by simp), if_neg (by simp)])]
    refine ⟨_, view b _ ?_, path_seg l ok b fence follow b hb parts hp⟩
    repeat (first | exact .nil | refine .junk ?_ | refine .eq rfl ?_)
set_option maxRecDepth 100000 in
theorem path_ok (l : List Ob) (ok : LkOK l) (base : Int) (s : Pth.Txt) (fence follow : Bool) {m : Mem} {K : CV → Mem → Prop} (h : K (lkV (lookS l base s fence follow)) m) : ACall Tryd.prog 9 [obsV l, vInt .i64 base, Pth.vT s, vBool fence, vBool follow] m K := by
  refine acall_frame (K0 := fun r _ => r = lkV (lookS l base s fence follow)) (acall_body_g Tryd.func9 l9 rfl (Nat.le_of_ble_eq_true rfl) (path_body l ok base s fence follow)) (by simp [obsV, vInt, vBool, Pth.vT, vStr, CV.isD, CC.isD]) fun r m1 hr => ?_
  subst hr
  exact ⟨_, FrzV.self (lkV_D _), h⟩

def c10 : LF := ⟨54, [.cell true 3 10, .tmp 11], (.seq (.reg [
    ⟨(some 10), .alloc [(.dat (.val (.int .i64 (0)))), (.dat (.val (.int .i64 (0)))), (.dat (.val (.string ⟨#[]⟩)))], none⟩,
    ⟨(some 11), .mov (.c (.rv (.one (.dat (.val (.int .i64 (0))))))), none⟩]) (.seq (.seq (.reg [
    ⟨(some 16), .mov (.t 0), none⟩,
    ⟨(some 17), .mov (.t 1), none⟩,
    ⟨(some 18), .call (.c (.rv (.one (.fn 15 [])))) [(.t 16), (.t 17), (.c (.rv (.one (.dat (.val (.int .i64 (0)))))))], none⟩,
    ⟨(some 19), .un .not (.t 18), none⟩]) (.cond (.t 19) (.seq (.reg [
    ⟨(some 20), .build [(.dat (.val (.int .i64 (0)))), (.dat (.val (.int .i64 (0)))), (.dat (.val (.string ⟨#[]⟩)))] [], none⟩,
    ⟨none, .store 3 (.t 10) (.t 20), none⟩,
    ⟨(some 11), .mov (.c (.rv (.one (.dat (.val (.int .i64 (6))))))), none⟩]) .ret) .skip)) (.seq (.seq (.reg [
    ⟨(some 21), .mov (.t 0), none⟩,
    ⟨(some 22), .mov (.t 1), none⟩,
    ⟨(some 23), .idx 9 (.t 21) (.t 22), none⟩,
    ⟨(some 24), .fadr 0 (.t 23), none⟩,
    ⟨(some 25), .load false 1 (.t 24), none⟩,
    ⟨(some 26), .bin .neq (.t 25) (.c (.rv (.one (.dat (.val (.int .i64 (2))))))), none⟩]) (.cond (.t 26) (.seq (.reg [
    ⟨(some 27), .build [(.dat (.val (.int .i64 (0)))), (.dat (.val (.int .i64 (0)))), (.dat (.val (.string ⟨#[]⟩)))] [], none⟩,
    ⟨none, .store 3 (.t 10) (.t 27), none⟩,
    ⟨(some 11), .mov (.c (.rv (.one (.dat (.val (.int .i64 (11))))))), none⟩]) .ret) .skip)) (.seq (.reg [
    ⟨(some 29), .mov (.t 2), none⟩,
    ⟨(some 30), .call (.c (.rv (.one (.fn 21 [])))) [(.t 29)], none⟩,
    ⟨(some 28), .mov (.t 30), none⟩,
    ⟨(some 31), .ext (.t 28) 0, none⟩,
    ⟨(some 32), .ext (.t 28) 1, none⟩,
    ⟨(some 33), .ext (.t 28) 2, none⟩,
    ⟨(some 12), .mov (.t 31), none⟩,
    ⟨(some 13), .mov (.t 32), none⟩,
    ⟨(some 14), .mov (.t 33), none⟩]) (.seq (.seq (.reg [
    ⟨(some 34), .mov (.t 14), none⟩,
    ⟨(some 35), .bin .neq (.t 34) (.c (.rv (.one (.dat (.val (.int .i64 (0))))))), none⟩]) (.cond (.t 35) (.seq (.reg [
    ⟨(some 36), .build [(.dat (.val (.int .i64 (0)))), (.dat (.val (.int .i64 (0)))), (.dat (.val (.string ⟨#[]⟩)))] [], none⟩,
    ⟨(some 37), .mov (.t 14), none⟩,
    ⟨none, .store 3 (.t 10) (.t 36), none⟩,
    ⟨(some 11), .mov (.t 37), none⟩]) .ret) .skip)) (.seq (.reg [
    ⟨(some 38), .mov (.t 1), none⟩,
    ⟨(some 15), .mov (.t 38), none⟩]) (.seq (.seq (.reg [
    ⟨(some 39), .mov (.t 13), none⟩,
    ⟨(some 40), .mov (.t 39), none⟩,
    ⟨(some 41), .mov (.t 3), (some (40, true))⟩,
    ⟨(some 42), .pick (.t 40) (.t 41) (.c (.rv (.one (.dat (.val (.bool false)))))), none⟩]) (.cond (.t 42) (.seq (.reg [
    ⟨(some 43), .build [(.dat (.val (.int .i64 (0)))), (.dat (.val (.int .i64 (0)))), (.dat (.val (.string ⟨#[]⟩)))] [], none⟩,
    ⟨none, .store 3 (.t 10) (.t 43), none⟩,
    ⟨(some 11), .mov (.c (.rv (.one (.dat (.val (.int .i64 (14))))))), none⟩]) .ret) .skip)) (.seq (.seq (.reg [
    ⟨(some 44), .mov (.t 13), none⟩]) (.cond (.t 44) (.reg [
    ⟨(some 15), .mov (.c (.rv (.one (.dat (.val (.int .i64 (0))))))), none⟩]) .skip)) (.seq (.reg [
    ⟨(some 45), .mov (.t 0), none⟩,
    ⟨(some 46), .mov (.t 1), none⟩,
    ⟨(some 47), .mov (.t 15), none⟩,
    ⟨(some 48), .mov (.t 12), none⟩,
    ⟨(some 49), .mov (.t 3), none⟩,
    ⟨(some 50), .mov (.t 4), none⟩,
    ⟨(some 51), .call (.c (.rv (.one (.fn 28 [])))) [(.t 45), (.t 46), (.t 47), (.t 48), (.t 49), (.t 50), (.c (.rv (.one (.dat (.val (.int .i64 (0)))))))], none⟩,
    ⟨(some 52), .ext (.t 51) 0, none⟩,
    ⟨(some 53), .ext (.t 51) 1, none⟩,
    ⟨none, .store 3 (.t 10) (.t 52), none⟩,
    ⟨(some 11), .mov (.t 53), none⟩]) .ret)))))))))⟩
def c28 : LF := ⟨149, [.cell true 3 14, .tmp 15], (.seq (.reg [
    ⟨(some 14), .alloc [(.dat (.val (.int .i64 (0)))), (.dat (.val (.int .i64 (0)))), (.dat (.val (.string ⟨#[]⟩)))], none⟩,
    ⟨(some 15), .mov (.c (.rv (.one (.dat (.val (.int .i64 (0))))))), none⟩]) (.seq (.seq (.reg [
    ⟨(some 22), .mov (.t 3), none⟩,
    ⟨(some 23), .len 1 (.t 22), none⟩,
    ⟨(some 24), .bin .eql (.t 23) (.c (.rv (.one (.dat (.val (.int .i64 (0))))))), none⟩]) (.cond (.t 24) (.seq (.reg [
    ⟨(some 25), .mov (.t 2), none⟩,
    ⟨(some 26), .mov (.t 0), none⟩,
    ⟨(some 27), .mov (.t 2), none⟩,
    ⟨(some 28), .idx 9 (.t 26) (.t 27), none⟩,
    ⟨(some 29), .fadr 8 (.t 28), none⟩,
    ⟨(some 30), .load false 1 (.t 29), none⟩,
    ⟨(some 31), .build [(.dat (.val (.int .i64 (0)))), (.dat (.val (.int .i64 (0)))), (.dat (.val (.string ⟨#[]⟩)))] [(0, 1, (.t 25)), (1, 1, (.t 30))], none⟩,
    ⟨none, .store 3 (.t 14) (.t 31), none⟩,
    ⟨(some 15), .mov (.c (.rv (.one (.dat (.val (.int .i64 (0))))))), none⟩]) .ret) .skip)) (.seq (.seq (.reg [
    ⟨(some 32), .mov (.t 0), none⟩,
    ⟨(some 33), .mov (.t 2), none⟩,
    ⟨(some 34), .idx 9 (.t 32) (.t 33), none⟩,
    ⟨(some 35), .fadr 0 (.t 34), none⟩,
    ⟨(some 36), .load false 1 (.t 35), none⟩,
    ⟨(some 37), .bin .neq (.t 36) (.c (.rv (.one (.dat (.val (.int .i64 (2))))))), none⟩]) (.cond (.t 37) (.seq (.reg [
    ⟨(some 38), .build [(.dat (.val (.int .i64 (0)))), (.dat (.val (.int .i64 (0)))), (.dat (.val (.string ⟨#[]⟩)))] [], none⟩,
    ⟨none, .store 3 (.t 14) (.t 38), none⟩,
    ⟨(some 15), .mov (.c (.rv (.one (.dat (.val (.int .i64 (11))))))), none⟩]) .ret) .skip)) (.seq (.draw [
    ⟨(some 39), .mov (.t 3), none⟩,
    ⟨(some 40), .idx 1 (.t 39) (.c (.rv (.one (.dat (.val (.int .i64 (0))))))), none⟩,
    ⟨(some 41), .load false 1 (.t 40), none⟩,
    ⟨(some 42), .mov (.t 3), none⟩,
    ⟨(some 43), .slc 1 (.t 42) (some (.c (.rv (.one (.dat (.val (.int .i64 (1)))))))) none none, none⟩,
    ⟨(some 16), .mov (.t 41), none⟩,
    ⟨(some 17), .mov (.t 43), none⟩]
    [(.cons 0 none (.cons 1 none (.cons 2 none (.cons 3 none (.cons 4 none (.cons 5 none (.cons 6 none .nil)))))))]) (.seq (.seq (.reg [
    ⟨(some 44), .mov (.t 16), none⟩,
    ⟨(some 45), .bin .eql (.t 44) (.c (.rv (.one (.dat (.val (.string ⟨#[46, 46]⟩)))))), none⟩]) (.cond (.t 45) (.seq (.seq (.reg [
    ⟨(some 46), .mov (.t 4), none⟩,
    ⟨(some 47), .mov (.t 46), none⟩,
    ⟨(some 48), .mov (.t 2), (some (47, true))⟩,
    ⟨(some 49), .mov (.t 1), (some (47, true))⟩,
    ⟨(some 50), .bin .eql (.t 48) (.t 49), (some (47, true))⟩,
    ⟨(some 51), .pick (.t 47) (.t 50) (.c (.rv (.one (.dat (.val (.bool false)))))), none⟩]) (.cond (.t 51) (.seq (.reg [
    ⟨(some 52), .build [(.dat (.val (.int .i64 (0)))), (.dat (.val (.int .i64 (0)))), (.dat (.val (.string ⟨#[]⟩)))] [], none⟩,
    ⟨none, .store 3 (.t 14) (.t 52), none⟩,
    ⟨(some 15), .mov (.c (.rv (.one (.dat (.val (.int .i64 (14))))))), none⟩]) .ret) .skip)) (.seq (.reg [
    ⟨(some 53), .mov (.t 0), none⟩,
    ⟨(some 54), .mov (.t 1), none⟩,
    ⟨(some 55), .mov (.t 0), none⟩,
    ⟨(some 56), .mov (.t 2), none⟩,
    ⟨(some 57), .idx 9 (.t 55) (.t 56), none⟩,
    ⟨(some 58), .fadr 8 (.t 57), none⟩,
    ⟨(some 59), .load false 1 (.t 58), none⟩,
    ⟨(some 60), .mov (.t 17), none⟩,
    ⟨(some 61), .mov (.t 4), none⟩,
    ⟨(some 62), .mov (.t 5), none⟩,
    ⟨(some 63), .mov (.t 6), none⟩,
    ⟨(some 64), .call (.c (.rv (.one (.fn 28 [])))) [(.t 53), (.t 54), (.t 59), (.t 60), (.t 61), (.t 62), (.t 63)], none⟩,
    ⟨(some 65), .ext (.t 64) 0, none⟩,
    ⟨(some 66), .ext (.t 64) 1, none⟩,
    ⟨none, .store 3 (.t 14) (.t 65), none⟩,
    ⟨(some 15), .mov (.t 66), none⟩]) .ret)) .skip)) (.seq (.reg [
    ⟨(some 67), .mov (.t 0), none⟩,
    ⟨(some 68), .mov (.t 2), none⟩,
    ⟨(some 69), .mov (.t 16), none⟩,
    ⟨(some 70), .call (.c (.rv (.one (.fn 14 [])))) [(.t 67), (.t 68), (.t 69)], none⟩,
    ⟨(some 18), .mov (.t 70), none⟩]) (.seq (.seq (.reg [
    ⟨(some 71), .mov (.t 18), none⟩,
    ⟨(some 72), .bin .lss (.t 71) (.c (.rv (.one (.dat (.val (.int .i64 (0))))))), none⟩]) (.cond (.t 72) (.seq (.seq (.reg [
    ⟨(some 73), .mov (.t 17), none⟩,
    ⟨(some 74), .len 1 (.t 73), none⟩,
    ⟨(some 75), .bin .gtr (.t 74) (.c (.rv (.one (.dat (.val (.int .i64 (0))))))), none⟩]) (.cond (.t 75) (.seq (.reg [
    ⟨(some 76), .build [(.dat (.val (.int .i64 (0)))), (.dat (.val (.int .i64 (0)))), (.dat (.val (.string ⟨#[]⟩)))] [], none⟩,
    ⟨none, .store 3 (.t 14) (.t 76), none⟩,
    ⟨(some 15), .mov (.c (.rv (.one (.dat (.val (.int .i64 (6))))))), none⟩]) .ret) .skip)) (.seq (.reg [
    ⟨(some 77), .mov (.t 2), none⟩,
    ⟨(some 78), .mov (.t 16), none⟩,
    ⟨(some 79), .build [(.dat (.val (.int .i64 (0)))), (.dat (.val (.int .i64 (0)))), (.dat (.val (.string ⟨#[]⟩)))] [(0, 1, (.c (.rv (.one (.dat (.val (.int .i64 (-1)))))))), (1, 1, (.t 77)), (2, 1, (.t 78))], none⟩,
    ⟨none, .store 3 (.t 14) (.t 79), none⟩,
    ⟨(some 15), .mov (.c (.rv (.one (.dat (.val (.int .i64 (0))))))), none⟩]) .ret)) .skip)) (.seq (.seq (.reg [
    ⟨(some 80), .mov (.t 0), none⟩,
    ⟨(some 81), .mov (.t 18), none⟩,
    ⟨(some 82), .idx 9 (.t 80) (.t 81), none⟩,
    ⟨(some 83), .fadr 0 (.t 82), none⟩,
    ⟨(some 84), .load false 1 (.t 83), none⟩,
    ⟨(some 85), .bin .eql (.t 84) (.c (.rv (.one (.dat (.val (.int .i64 (3))))))), none⟩,
    ⟨(some 86), .mov (.t 85), none⟩,
    ⟨(some 87), .mov (.t 5), (some (86, true))⟩,
    ⟨(some 88), .mov (.t 87), (some (86, true))⟩,
    ⟨(some 89), .mov (.t 17), (some (88, false))⟩,
    ⟨(some 90), .len 1 (.t 89), (some (88, false))⟩,
    ⟨(some 91), .bin .gtr (.t 90) (.c (.rv (.one (.dat (.val (.int .i64 (0))))))), (some (88, false))⟩,
    ⟨(some 92), .pick (.t 88) (.c (.rv (.one (.dat (.val (.bool true)))))) (.t 91), (some (86, true))⟩,
    ⟨(some 93), .pick (.t 86) (.t 92) (.c (.rv (.one (.dat (.val (.bool false)))))), none⟩]) (.cond (.t 93) (.seq (.seq (.reg [
    ⟨(some 94), .mov (.t 6), none⟩,
    ⟨(some 95), .bin .geq (.t 94) (.c (.rv (.one (.dat (.val (.int .i64 (6))))))), none⟩]) (.cond (.t 95) (.seq (.reg [
    ⟨(some 96), .build [(.dat (.val (.int .i64 (0)))), (.dat (.val (.int .i64 (0)))), (.dat (.val (.string ⟨#[]⟩)))] [], none⟩,
    ⟨none, .store 3 (.t 14) (.t 96), none⟩,
    ⟨(some 15), .mov (.c (.rv (.one (.dat (.val (.int .i64 (13))))))), none⟩]) .ret) .skip)) (.seq (.reg [
    ⟨(some 98), .mov (.t 0), none⟩,
    ⟨(some 99), .mov (.t 18), none⟩,
    ⟨(some 100), .idx 9 (.t 98) (.t 99), none⟩,
    ⟨(some 101), .fadr 3 (.t 100), none⟩,
    ⟨(some 102), .load false 1 (.t 101), none⟩,
    ⟨(some 103), .call (.c (.rv (.one (.fn 21 [])))) [(.t 102)], none⟩,
    ⟨(some 97), .mov (.t 103), none⟩,
    ⟨(some 104), .ext (.t 97) 0, none⟩,
    ⟨(some 105), .ext (.t 97) 1, none⟩,
    ⟨(some 106), .ext (.t 97) 2, none⟩,
    ⟨(some 19), .mov (.t 104), none⟩,
    ⟨(some 20), .mov (.t 105), none⟩,
    ⟨(some 21), .mov (.t 106), none⟩]) (.seq (.seq (.reg [
    ⟨(some 107), .mov (.t 21), none⟩,
    ⟨(some 108), .bin .neq (.t 107) (.c (.rv (.one (.dat (.val (.int .i64 (0))))))), none⟩]) (.cond (.t 108) (.seq (.reg [
    ⟨(some 109), .build [(.dat (.val (.int .i64 (0)))), (.dat (.val (.int .i64 (0)))), (.dat (.val (.string ⟨#[]⟩)))] [], none⟩,
    ⟨(some 110), .mov (.t 21), none⟩,
    ⟨none, .store 3 (.t 14) (.t 109), none⟩,
    ⟨(some 15), .mov (.t 110), none⟩]) .ret) .skip)) (.seq (.seq (.reg [
    ⟨(some 111), .mov (.t 20), none⟩,
    ⟨(some 112), .mov (.t 111), none⟩,
    ⟨(some 113), .mov (.t 4), (some (112, true))⟩,
    ⟨(some 114), .pick (.t 112) (.t 113) (.c (.rv (.one (.dat (.val (.bool false)))))), none⟩]) (.cond (.t 114) (.seq (.reg [
    ⟨(some 115), .build [(.dat (.val (.int .i64 (0)))), (.dat (.val (.int .i64 (0)))), (.dat (.val (.string ⟨#[]⟩)))] [], none⟩,
    ⟨none, .store 3 (.t 14) (.t 115), none⟩,
    ⟨(some 15), .mov (.c (.rv (.one (.dat (.val (.int .i64 (14))))))), none⟩]) .ret) .skip)) (.seq (.seq (.reg [
    ⟨(some 116), .mov (.t 20), none⟩]) (.cond (.t 116) (.reg [
    ⟨(some 2), .mov (.c (.rv (.one (.dat (.val (.int .i64 (0))))))), none⟩]) .skip)) (.seq (.reg [
    ⟨(some 117), .mov (.t 0), none⟩,
    ⟨(some 118), .mov (.t 1), none⟩,
    ⟨(some 119), .mov (.t 2), none⟩,
    ⟨(some 120), .bsl 1 [(.dat (.val (.string ⟨#[]⟩)))] 0 [], none⟩,
    ⟨(some 121), .mov (.t 19), none⟩,
    ⟨(some 122), .app 1 16 (.t 120) (.t 121), none⟩,
    ⟨(some 123), .mov (.t 17), none⟩,
    ⟨(some 124), .app 1 16 (.t 122) (.t 123), none⟩,
    ⟨(some 125), .mov (.t 4), none⟩,
    ⟨(some 126), .mov (.t 5), none⟩,
    ⟨(some 127), .mov (.t 6), none⟩,
    ⟨(some 128), .bin .add (.t 127) (.c (.rv (.one (.dat (.val (.int .i64 (1))))))), none⟩,
    ⟨(some 129), .call (.c (.rv (.one (.fn 28 [])))) [(.t 117), (.t 118), (.t 119), (.t 124), (.t 125), (.t 126), (.t 128)], none⟩,
    ⟨(some 130), .ext (.t 129) 0, none⟩,
    ⟨(some 131), .ext (.t 129) 1, none⟩,
    ⟨none, .store 3 (.t 14) (.t 130), none⟩,
    ⟨(some 15), .mov (.t 131), none⟩]) .ret)))))) .skip)) (.seq (.seq (.reg [
    ⟨(some 132), .mov (.t 17), none⟩,
    ⟨(some 133), .len 1 (.t 132), none⟩,
    ⟨(some 134), .bin .eql (.t 133) (.c (.rv (.one (.dat (.val (.int .i64 (0))))))), none⟩]) (.cond (.t 134) (.seq (.reg [
    ⟨(some 135), .mov (.t 18), none⟩,
    ⟨(some 136), .mov (.t 2), none⟩,
    ⟨(some 137), .mov (.t 16), none⟩,
    ⟨(some 138), .build [(.dat (.val (.int .i64 (0)))), (.dat (.val (.int .i64 (0)))), (.dat (.val (.string ⟨#[]⟩)))] [(0, 1, (.t 135)), (1, 1, (.t 136)), (2, 1, (.t 137))], none⟩,
    ⟨none, .store 3 (.t 14) (.t 138), none⟩,
    ⟨(some 15), .mov (.c (.rv (.one (.dat (.val (.int .i64 (0))))))), none⟩]) .ret) .skip)) (.seq (.reg [
    ⟨(some 139), .mov (.t 0), none⟩,
    ⟨(some 140), .mov (.t 1), none⟩,
    ⟨(some 141), .mov (.t 18), none⟩,
    ⟨(some 142), .mov (.t 17), none⟩,
    ⟨(some 143), .mov (.t 4), none⟩,
    ⟨(some 144), .mov (.t 5), none⟩,
    ⟨(some 145), .mov (.t 6), none⟩,
    ⟨(some 146), .call (.c (.rv (.one (.fn 28 [])))) [(.t 139), (.t 140), (.t 141), (.t 142), (.t 143), (.t 144), (.t 145)], none⟩,
    ⟨(some 147), .ext (.t 146) 0, none⟩,
    ⟨(some 148), .ext (.t 146) 1, none⟩,
    ⟨none, .store 3 (.t 14) (.t 147), none⟩,
    ⟨(some 15), .mov (.t 148), none⟩]) .ret))))))))))⟩
/-! the document's walk, Look -/
theorem l28 : lowF Tryd.prog Tryd.f28 = some c28 := by kernel_rfl
theorem l10 : lowF Tryd.prog Tryd.f10 = some c10 := by kernel_rfl
def walkA (l : List Ob) (base : Nat) (fence follow : Bool) (h a : Nat) (t : List Pth.Txt) : List CV := [obsV l, vInt .i64 (base : Nat), vInt .i64 (a : Nat), Pth.txV t, vBool fence, vBool follow, vInt .i64 (h : Nat)]
theorem walkA_D (l : List Ob) (base : Nat) (fence follow : Bool) (h a : Nat) (t : List Pth.Txt) : ∀ c, c ∈ walkA l base fence follow h a t → c.isD = true := by
  intro c hc
  simp only [walkA, List.mem_cons, List.not_mem_nil, or_false] at hc
  rcases hc with rfl | rfl | rfl | rfl | rfl | rfl | rfl <;> rfl
set_option maxRecDepth 100000 in
set_option maxHeartbeats 8000000 in
theorem walk_body (l : List Ob) (ok : LkOK l) (base : Nat) (fence follow : Bool) (h a : Nat) (hh : h ≤ 6) (ha : a < l.length) (t : List Pth.Txt) (ht : t.length ≤ 61 * (h + 1))
    (ih : ∀ (h' a' : Nat) (t' : List Pth.Txt), h' ≤ 6 → a' < l.length → t'.length ≤ 61 * (h' + 1) → (6 - h') * 1000 + t'.length < (6 - h) * 1000 + t.length → ∀ {m : Mem} {K : CV → Mem → Prop}, K (lkV (wkS l base fence follow (6 - h') t' a')) m → ACall Tryd.prog 28 (walkA l base fence follow h' a' t') m K) :
    body Tryd.prog c28 (walkA l base fence follow h a t) [] (fun r m => r = lkV (wkS l base fence follow (6 - h) t a)) := by
  have hg := obj_getB ha
  refine bB_beq (fun h0 => ?_) (fun h0 => ?_)
  · rw [lenT] at h0
    have h0 : t = [] := List.eq_nil_of_length_eq_zero (by omega)
    subst h0
    rw [wkS_nil]
    refine ok_some hg ?_
    rw [ok.upN_eq ha]
    exact rfl
  rw [lenT] at h0
  obtain ⟨s, t, rfl⟩ : ∃ s t', t = s :: t' := by
    cases t with
    | nil => exact absurd rfl h0
    | cons s t' => exact ⟨s, t', rfl⟩
  have ht : t.length + 1 ≤ 61 * (h + 1) := by simpa using ht
  have hw := wkS_eq l base fence follow (6 - h)
  have hS : ∀ r, wk1 l base fence follow (recS l base fence follow (6 - h)) (s :: t) a = r → wkS l base fence follow (6 - h) (s :: t) a = r := fun r e => by rw [hw]; exact e
  refine ok_some hg ?_
  refine bB_bne (fun h1 => ?_) (fun h1 => ?_)
  · rw [hS (R4.no 11) (by rw [wk1, if_pos (by rw [oAt_eq ha]; exact h1)])]; rfl
  have h1 : l[a].kind = 2 := by simpa using h1
  have hk2 : ¬ (oAt l a).kind ≠ 2 := by rw [oAt_eq ha, h1]; simp
  refine bB_yes (by rw [Bool.and_eq_true, Nat.ble_eq, Nat.ble_eq, List.length_map, List.length_cons]; exact ⟨Nat.succ_le_succ (Nat.zero_le _), Nat.le_refl _⟩) ?_
  rw [show List.drop 1 (List.take (List.map Pth.tD (s :: t)).length (List.map Pth.tD (s :: t))) = t.map Pth.tD by rw [List.take_length]; rfl]
  have lt1 : ∀ t' : List Pth.Txt, (6 - h) * 1000 + t'.length < (6 - h) * 1000 + (s :: t').length := fun t' => by simp
  refine Pth.bB_str (b := [46, 46]) (fun h2 => ?_) (fun h2 => ?_)
  · subst h2
    have up : ¬ (fence = true ∧ a = base) → wkS l base fence follow (6 - h) ([46, 46] :: t) a = wkS l base fence follow (6 - h) t (upN l a) := fun h3 => hS _ (by rw [wk1, if_neg hk2, if_pos rfl, if_neg h3, hw])
    have hu := ok.upN_eq ha
    cases fence with
    | true =>
      refine bB_beq (fun h3 => ?_) (fun h3 => ?_)
      · rw [hS (R4.no 14) (by rw [wk1, if_neg hk2, if_pos rfl, if_pos ⟨rfl, by omega⟩])]; rfl
      · rw [up (fun h => h3 (by rw [h.2]))]
        refine ok_some hg ?_
        rw [hu]
        refine ih h (upN l a) t hh (ok.upN_lt a) (by omega) (lt1 t) ?_
        exact rfl
    | false =>
      rw [up (by simp)]
      refine ok_some hg ?_
      rw [hu]
      refine ih h (upN l a) t hh (ok.upN_lt a) (by omega) (lt1 t) ?_
      exact rfl
  refine rfind_ok l ok a ha h1 s ?_
  have hf := ok.fnd_lt a s
  have hW : ∀ r, (if fnd l a s < 0 then (if t ≠ [] then R4.no 6 else ⟨-1, a, s, 0⟩) else if (oAt l (fnd l a s).toNat).kind = 3 ∧ (follow = true ∨ t ≠ []) then recS l base fence follow (6 - h) a t (fnd l a s).toNat
    else if t = [] then ⟨fnd l a s, a, s, 0⟩ else wk1 l base fence follow (recS l base fence follow (6 - h)) t (fnd l a s).toNat) = r → wkS l base fence follow (6 - h) (s :: t) a = r := fun r e => hS r (by rw [wk1, if_neg hk2, if_neg h2]; exact e)
  refine bB_dec (fun h3 => ?_) (fun h3 => ?_)
  · refine bB_dec (fun h4 => ?_) (fun h4 => ?_)
    · have h4 : ((t.map Pth.tD).length : Int) > 0 := h4
      rw [lenT] at h4
      rw [hW (R4.no 6) (by rw [if_pos h3, if_pos (fun e => by rw [e] at h4; simp at h4)])]; rfl
    · have h4 : ¬ ((t.map Pth.tD).length : Int) > 0 := h4
      rw [lenT] at h4
      have h4 : t = [] := List.eq_nil_of_length_eq_zero (by omega)
      rw [hW ⟨-1, a, s, 0⟩ (by rw [if_pos h3, if_neg (by simp [h4])])]; rfl
  obtain ⟨k, hfk, hk⟩ := hf h3
  rw [if_neg h3, hfk, Int.toNat_natCast, oAt_eq hk] at hW
  have hgk := obj_getB hk
  have htg : l[k].target = Pth.bysL (tgt l k) := by
    obtain ⟨tg, e⟩ := Pth.bysL_of l[k].target
    rw [tgt, oAt_eq hk, e]
    rfl
  rw [htg] at hgk
  rw [hfk]
  have fin1 : ¬ (l[k].kind = 3 ∧ (follow = true ∨ t ≠ [])) → ∀ r, (if t = [] then ⟨(k : Int), a, s, 0⟩ else wk1 l base fence follow (recS l base fence follow (6 - h)) t k) = r → wkS l base fence follow (6 - h) (s :: t) a = r := fun hn r e => hW r (by rw [if_neg hn]; exact e)
  have gt : ((t.map Pth.tD).length : Int) > 0 → t ≠ [] := fun h e => by rw [e] at h; simp at h
  have ngt : ¬ ((t.map Pth.tD).length : Int) > 0 → t = [] := fun h => List.eq_nil_of_length_eq_zero (by rw [lenT] at h; omega)
  refine ok_some hgk ?_
  refine bB_beq (fun h6 => ?_) (fun h6 => ?_)
  · have h6 : l[k].kind = 3 := h6
    cases follow with
    | true =>
      have hW3 := fun r e => hW r (by rw [if_pos ⟨h6, .inl rfl⟩]; exact e)
      refine bB_dec (fun h7 => ?_) (fun h7 => ?_)
      · have h7 : (h : Int) ≥ 6 := h7
        have e6 : h = 6 := by omega
        rw [hW3 (R4.no 13) (by rw [e6]; rfl)]; rfl
      have h7 : ¬ (h : Int) ≥ 6 := h7
      refine ok_some hgk ?_
      refine Pth.rsplit_ok (tgt l k) ?_
      have hp := splitS_len (tgt l k)
      have hW : ∀ r, lnk l fence (wkS l base fence true (5 - h)) a t k = r → wkS l base fence true (6 - h) (s :: t) a = r := fun r e => hW3 r (by rw [show 6 - h = (5 - h) + 1 by omega]; exact e)
      unfold lnk at hW
      generalize Pth.splitS (tgt l k) = p at hp hW ⊢
      obtain ⟨parts, root, er⟩ := p
      have hp : parts.length ≤ 61 := hp
      refine bB_bne (fun h8 => ?_) (fun h8 => ?_)
      · rw [hW _ (if_pos h8)]; rfl
      have h8 : er = 0 := by simpa using h8
      rw [if_neg (by simp [h8])] at hW
      have hlt : (6 - (h + 1)) * 1000 + (parts ++ t).length < (6 - h) * 1000 + (s :: t).length := by
        rw [List.length_append, List.length_cons]; omega
      have hle : (parts ++ t).length ≤ 61 * (h + 1 + 1) := by rw [List.length_append]; omega
      have s1 : ((([] : List (List CC)) ++ dRows (parts.map Pth.tD)).length + (dRows (t.map Pth.tD)).length) * 16 ≤ 140737488355328 := by
        rw [List.length_append, Pth.dRows_len, Pth.dRows_len, List.length_map, List.length_map]
        show (0 + parts.length + t.length) * 16 ≤ _
        omega
      have s0 : (0 + (dRows (parts.map Pth.tD)).length) * 16 ≤ 140737488355328 := by
        rw [Pth.dRows_len, List.length_map]; omega
      have hv : ∀ a' : Nat, View 4 ⟨[obsV l, vInt .i64 (base : Nat), vInt .i64 (a' : Nat), .rv (.one (.row 3 1 0 none)), vBool fence, vBool true, vInt .i64 (IntKind.i64.wrap ((h : Int) + 1))], [z3R, .dead, .dead, .row 1 ((([] : List (List CC)) ++ dRows (parts.map Pth.tD)) ++ dRows (t.map Pth.tD))]⟩ ⟨walkA l base fence true (h + 1) a' (parts ++ t), [z3R, .dead, .dead, .dead]⟩ := fun a' =>
        View.of 4 [0, 1, 2, 3] [3] rfl rfl rfl rfl rfl rfl (.eq rfl (.eq rfl (.eq rfl (.put (.rv (.one (.frz (frzTx rfl rfl (by rw [List.nil_append]; exact tD_rows parts t))))) (.eq rfl (.eq rfl (.eq (next_i64 (by omega)).symm .nil)))))))
          (.put (notF rfl) rfl (.eq rfl (by intro x; cases x)) (.dead (.dead (.dead (.nil _)))))
      cases root with
      | true =>
        cases fence with
        | true => rw [hW _ (if_pos ⟨rfl, rfl⟩)]; rfl
        | false =>
          rw [hW _ (by rw [if_neg (by simp), if_pos rfl])]
          refine ⟨s0, ?_⟩
          refine ⟨s1, ?_⟩
          refine acall_pre (hv 0) ?_
          refine ih (h + 1) 0 (parts ++ t) (by omega) ok.pos hle hlt ?_
          rw [show 6 - (h + 1) = 5 - h by omega]
          exact rfl
      | false =>
        rw [hW _ (by rw [if_neg (by simp), if_neg (by simp)])]
        refine ⟨s0, ?_⟩
        refine ⟨s1, ?_⟩
        refine acall_pre (hv a) ?_
        refine ih (h + 1) a (parts ++ t) (by omega) ha hle hlt ?_
        rw [show 6 - (h + 1) = 5 - h by omega]
        exact rfl
    | false =>
      refine bB_dec (fun h5 => ?_) (fun h5 => ?_)
      · have hW3 := fun r e => hW r (by rw [if_pos ⟨h6, .inr (gt h5)⟩]; exact e)
        refine bB_dec (fun h7 => ?_) (fun h7 => ?_)
        · have h7 : (h : Int) ≥ 6 := h7
          have e6 : h = 6 := by omega
          rw [hW3 (R4.no 13) (by rw [e6]; rfl)]; rfl
        have h7 : ¬ (h : Int) ≥ 6 := h7
        refine ok_some hgk ?_
        refine Pth.rsplit_ok (tgt l k) ?_
        have hp := splitS_len (tgt l k)
        have hW : ∀ r, lnk l fence (wkS l base fence false (5 - h)) a t k = r → wkS l base fence false (6 - h) (s :: t) a = r := fun r e => hW3 r (by rw [show 6 - h = (5 - h) + 1 by omega]; exact e)
        unfold lnk at hW
        generalize Pth.splitS (tgt l k) = p at hp hW ⊢
        obtain ⟨parts, root, er⟩ := p
        have hp : parts.length ≤ 61 := hp
        refine bB_bne (fun h8 => ?_) (fun h8 => ?_)
        · rw [hW _ (if_pos h8)]; rfl
        have h8 : er = 0 := by simpa using h8
        rw [if_neg (by simp [h8])] at hW
        have hlt : (6 - (h + 1)) * 1000 + (parts ++ t).length < (6 - h) * 1000 + (s :: t).length := by
          rw [List.length_append, List.length_cons]; omega
        have hle : (parts ++ t).length ≤ 61 * (h + 1 + 1) := by rw [List.length_append]; omega
        have s1 : ((([] : List (List CC)) ++ dRows (parts.map Pth.tD)).length + (dRows (t.map Pth.tD)).length) * 16 ≤ 140737488355328 := by
          rw [List.length_append, Pth.dRows_len, Pth.dRows_len, List.length_map, List.length_map]
          show (0 + parts.length + t.length) * 16 ≤ _
          omega
        have s0 : (0 + (dRows (parts.map Pth.tD)).length) * 16 ≤ 140737488355328 := by
          rw [Pth.dRows_len, List.length_map]; omega
        have hv : ∀ a' : Nat, View 4 ⟨[obsV l, vInt .i64 (base : Nat), vInt .i64 (a' : Nat), .rv (.one (.row 3 1 0 none)), vBool fence, vBool false, vInt .i64 (IntKind.i64.wrap ((h : Int) + 1))], [z3R, .dead, .dead, .row 1 ((([] : List (List CC)) ++ dRows (parts.map Pth.tD)) ++ dRows (t.map Pth.tD))]⟩ ⟨walkA l base fence false (h + 1) a' (parts ++ t), [z3R, .dead, .dead, .dead]⟩ := fun a' =>
          View.of 4 [0, 1, 2, 3] [3] rfl rfl rfl rfl rfl rfl (.eq rfl (.eq rfl (.eq rfl (.put (.rv (.one (.frz (frzTx rfl rfl (by rw [List.nil_append]; exact tD_rows parts t))))) (.eq rfl (.eq rfl (.eq (next_i64 (by omega)).symm .nil)))))))
            (.put (notF rfl) rfl (.eq rfl (by intro x; cases x)) (.dead (.dead (.dead (.nil _)))))
        cases root with
        | true =>
          cases fence with
          | true => rw [hW _ (if_pos ⟨rfl, rfl⟩)]; rfl
          | false =>
            rw [hW _ (by rw [if_neg (by simp), if_pos rfl])]
            refine ⟨s0, ?_⟩
            refine ⟨s1, ?_⟩
            refine acall_pre (hv 0) ?_
            refine ih (h + 1) 0 (parts ++ t) (by omega) ok.pos hle hlt ?_
            rw [show 6 - (h + 1) = 5 - h by omega]
            exact rfl
        | false =>
          rw [hW _ (by rw [if_neg (by simp), if_neg (by simp)])]
          refine ⟨s0, ?_⟩
          refine ⟨s1, ?_⟩
          refine acall_pre (hv a) ?_
          refine ih (h + 1) a (parts ++ t) (by omega) ha hle hlt ?_
          rw [show 6 - (h + 1) = 5 - h by omega]
          exact rfl
      · have h5 := ngt h5
        refine bB_beq (fun h9 => ?_) (fun h9 => ?_)
        · rw [lenT] at h9
          have h9 : t = [] := List.eq_nil_of_length_eq_zero (by omega)
          rw [fin1 (by rw [h5]; simp) ⟨(k : Nat), a, s, 0⟩ (by rw [if_pos h9])]; rfl
        · rw [lenT] at h9
          have h9 : t ≠ [] := fun e => h9 (by rw [e]; rfl)
          rw [fin1 (by rw [h5]; simp) _ (by rw [if_neg h9, ← hw])]
          refine ih h k t hh hk (by omega) (lt1 t) ?_
          exact rfl
  · have h6 : l[k].kind ≠ 3 := h6
    refine bB_beq (fun h9 => ?_) (fun h9 => ?_)
    · rw [lenT] at h9
      have h9 : t = [] := List.eq_nil_of_length_eq_zero (by omega)
      rw [fin1 (fun h => h6 h.1) ⟨(k : Nat), a, s, 0⟩ (by rw [if_pos h9])]; rfl
    · rw [lenT] at h9
      have h9 : t ≠ [] := fun e => h9 (by rw [e]; rfl)
      rw [fin1 (fun h => h6 h.1) _ (by rw [if_neg h9, ← hw])]
      refine ih h k t hh hk (by omega) (lt1 t) ?_
      exact rfl
set_option maxRecDepth 100000 in
theorem walk_ok (l : List Ob) (ok : LkOK l) (base : Nat) (fence follow : Bool) : ∀ (n h a : Nat) (t : List Pth.Txt), (6 - h) * 1000 + t.length ≤ n → h ≤ 6 → a < l.length → t.length ≤ 61 * (h + 1) → ∀ {m : Mem} {K : CV → Mem → Prop}, K (lkV (wkS l base fence follow (6 - h) t a)) m → ACall Tryd.prog 28 (walkA l base fence follow h a t) m K := by
  intro n
  induction n using Nat.strongRecOn with
  | _ n ihn =>
  intro h a t hn hh ha ht m K hK
  refine acall_frame (K0 := fun r _ => r = lkV (wkS l base fence follow (6 - h) t a)) (acall_body Tryd.func28 l28 rfl (Nat.le_of_ble_eq_true rfl) (walk_body l ok base fence follow h a hh ha t ht fun h' a' t' h1 h2 h3 h4 {m K} hK => ihn ((6 - h') * 1000 + t'.length) (by omega) h' a' t' (Nat.le_refl _) h1 h2 h3 hK)) (walkA_D l base fence follow h a t) fun r m1 hr => ?_
  subst hr
  exact ⟨_, FrzV.self (lkV_D _), hK⟩
/-! Look -/
set_option maxRecDepth 100000 in
set_option maxHeartbeats 8000000 in
theorem rlook_body (l : List Ob) (ok : LkOK l) (base : Int) (s : Pth.Txt) (fence follow : Bool) : body Tryd.prog c10 [obsV l, vInt .i64 base, Pth.vT s, vBool fence, vBool follow] [] (fun r m => r = lkV (lookS l base s fence follow)) := by
  refine is_okB l base 0 ?_
  cases hI : isSB l base 0 with
  | false =>
    have : lookS l base s fence follow = R4.no 6 := by rw [lookS, hI]; rfl
    rw [this]; rfl
  | true =>
    obtain ⟨b, rfl, hb⟩ := is0_yesB hI
    have hL : ∀ r, (if l[b].kind ≠ 2 then R4.no 11 else if (Pth.splitS s).2.2 ≠ 0 then R4.no (Pth.splitS s).2.2 else if (Pth.splitS s).2.1 = true ∧ fence = true then R4.no 14
      else wkS l b fence follow 6 (Pth.splitS s).1 (if (Pth.splitS s).2.1 = true then 0 else b)) = r → lookS l b s fence follow = r := fun r e => by
      rw [lookS, if_pos hI, Int.toNat_natCast, oAt_eq hb]; exact e
    have hg := obj_getB hb
    refine ok_some hg ?_
    refine bB_bne (fun h4 => ?_) (fun h4 => ?_)
    · rw [hL _ (if_pos h4)]; rfl
    have h4 : l[b].kind = 2 := by simpa using h4
    rw [if_neg (by rw [h4]; simp)] at hL
    refine Pth.rsplit_ok s ?_
    have hp := splitS_len s
    generalize Pth.splitS s = p at hp hL ⊢
    obtain ⟨parts, root, er⟩ := p
    have hp : parts.length ≤ 61 := hp
    refine bB_bne (fun h5 => ?_) (fun h5 => ?_)
    · rw [hL _ (if_pos h5)]; rfl
    have h5 : er = 0 := by simpa using h5
    rw [if_neg (by simp [h5])] at hL
    cases root with
    | true =>
      cases fence with
      | true =>
        rw [hL _ (if_pos ⟨rfl, rfl⟩)]; rfl
      | false =>
        rw [hL _ (by rw [if_neg (by simp), if_pos rfl])]
        refine walk_ok l ok b false follow _ 0 0 parts (Nat.le_refl _) (by omega) ok.pos (by omega) ?_
        exact rfl
    | false =>
      rw [hL _ (by rw [if_neg (by simp), if_neg (by simp)])]
      refine walk_ok l ok b fence follow _ 0 b parts (Nat.le_refl _) (by omega) hb (by omega) ?_
      exact rfl
set_option maxRecDepth 100000 in
theorem rlook_ok (l : List Ob) (ok : LkOK l) (base : Int) (s : Pth.Txt) (fence follow : Bool) {m : Mem} {K : CV → Mem → Prop} (h : K (lkV (lookS l base s fence follow)) m) : ACall Tryd.prog 10 [obsV l, vInt .i64 base, Pth.vT s, vBool fence, vBool follow] m K := by
  refine acall_frame (K0 := fun r _ => r = lkV (lookS l base s fence follow)) (acall_body Tryd.func10 l10 rfl (Nat.le_of_ble_eq_true rfl) (rlook_body l ok base s fence follow)) (by simp [obsV, vInt, vBool, Pth.vT, vStr, CV.isD, CC.isD]) fun r m1 hr => ?_
  subst hr
  exact ⟨_, FrzV.self (lkV_D _), h⟩

def c3 : LF := ⟨74, [.tmp 12], (.seq (.reg [
    ⟨(some 12), .mov (.c (.rv (.one (.dat (.val (.bool false)))))), none⟩]) (.seq (.reg [
    ⟨(some 18), .mov (.t 0), none⟩,
    ⟨(some 19), .call (.c (.rv (.one (.fn 8 [])))) [(.t 18)], none⟩,
    ⟨(some 20), .fld false 0 1 (.t 19), none⟩,
    ⟨(some 13), .mov (.t 20), none⟩]) (.seq (.reg [
    ⟨(some 22), .mov (.t 13), none⟩,
    ⟨(some 23), .mov (.t 1), none⟩,
    ⟨(some 24), .mov (.t 2), none⟩,
    ⟨(some 25), .mov (.t 3), none⟩,
    ⟨(some 26), .mov (.t 4), none⟩,
    ⟨(some 27), .call (.c (.rv (.one (.fn 9 [])))) [(.t 22), (.t 23), (.t 24), (.t 25), (.t 26)], none⟩,
    ⟨(some 21), .mov (.t 27), none⟩,
    ⟨(some 28), .ext (.t 21) 0, none⟩,
    ⟨(some 29), .ext (.t 21) 1, none⟩,
    ⟨(some 14), .alloc [(.dat (.val (.int .i64 (0)))), (.dat (.val (.int .i64 (0)))), (.dat (.val (.string ⟨#[]⟩)))], none⟩,
    ⟨none, .store 3 (.t 14) (.t 28), none⟩,
    ⟨(some 15), .mov (.t 29), none⟩]) (.seq (.reg [
    ⟨(some 31), .mov (.t 13), none⟩,
    ⟨(some 32), .mov (.t 1), none⟩,
    ⟨(some 33), .mov (.t 2), none⟩,
    ⟨(some 34), .mov (.t 3), none⟩,
    ⟨(some 35), .mov (.t 4), none⟩,
    ⟨(some 36), .call (.c (.rv (.one (.fn 10 [])))) [(.t 31), (.t 32), (.t 33), (.t 34), (.t 35)], none⟩,
    ⟨(some 30), .mov (.t 36), none⟩,
    ⟨(some 37), .ext (.t 30) 0, none⟩,
    ⟨(some 38), .ext (.t 30) 1, none⟩,
    ⟨(some 16), .alloc [(.dat (.val (.int .i64 (0)))), (.dat (.val (.int .i64 (0)))), (.dat (.val (.string ⟨#[]⟩)))], none⟩,
    ⟨none, .store 3 (.t 16) (.t 37), none⟩,
    ⟨(some 17), .mov (.t 38), none⟩]) (.seq (.reg [
    ⟨(some 39), .mov (.t 15), none⟩,
    ⟨(some 40), .mov (.t 17), none⟩,
    ⟨(some 41), .bin .eql (.t 39) (.t 40), none⟩,
    ⟨(some 42), .mov (.t 41), none⟩,
    ⟨(some 43), .fadr 0 (.t 14), (some (42, true))⟩,
    ⟨(some 44), .load false 1 (.t 43), (some (42, true))⟩,
    ⟨(some 45), .fadr 0 (.t 16), (some (42, true))⟩,
    ⟨(some 46), .load false 1 (.t 45), (some (42, true))⟩,
    ⟨(some 47), .bin .eql (.t 44) (.t 46), (some (42, true))⟩,
    ⟨(some 48), .pick (.t 42) (.t 47) (.c (.rv (.one (.dat (.val (.bool false)))))), none⟩,
    ⟨(some 49), .mov (.t 48), none⟩,
    ⟨(some 50), .fadr 1 (.t 14), (some (49, true))⟩,
    ⟨(some 51), .load false 1 (.t 50), (some (49, true))⟩,
    ⟨(some 52), .fadr 1 (.t 16), (some (49, true))⟩,
    ⟨(some 53), .load false 1 (.t 52), (some (49, true))⟩,
    ⟨(some 54), .bin .eql (.t 51) (.t 53), (some (49, true))⟩,
    ⟨(some 55), .pick (.t 49) (.t 54) (.c (.rv (.one (.dat (.val (.bool false)))))), none⟩,
    ⟨(some 56), .mov (.t 55), none⟩,
    ⟨(some 57), .fadr 2 (.t 14), (some (56, true))⟩,
    ⟨(some 58), .load false 1 (.t 57), (some (56, true))⟩,
    ⟨(some 59), .fadr 2 (.t 16), (some (56, true))⟩,
    ⟨(some 60), .load false 1 (.t 59), (some (56, true))⟩,
    ⟨(some 61), .bin .eql (.t 58) (.t 60), (some (56, true))⟩,
    ⟨(some 62), .pick (.t 56) (.t 61) (.c (.rv (.one (.dat (.val (.bool false)))))), none⟩,
    ⟨(some 63), .mov (.t 62), none⟩,
    ⟨(some 64), .mov (.t 13), (some (63, true))⟩,
    ⟨(some 65), .mov (.t 5), (some (63, true))⟩,
    ⟨(some 66), .mov (.t 1), (some (63, true))⟩,
    ⟨(some 67), .call (.c (.rv (.one (.fn 11 [])))) [(.t 64), (.t 65), (.t 66)], (some (63, true))⟩,
    ⟨(some 68), .mov (.t 13), (some (63, true))⟩,
    ⟨(some 69), .mov (.t 5), (some (63, true))⟩,
    ⟨(some 70), .mov (.t 1), (some (63, true))⟩,
    ⟨(some 71), .call (.c (.rv (.one (.fn 12 [])))) [(.t 68), (.t 69), (.t 70)], (some (63, true))⟩,
    ⟨(some 72), .beq false (.t 67) (.t 71), (some (63, true))⟩,
    ⟨(some 73), .pick (.t 63) (.t 72) (.c (.rv (.one (.dat (.val (.bool false)))))), none⟩,
    ⟨(some 12), .mov (.t 73), none⟩]) .ret)))))⟩
/-! a built store is one in which one can look; LookTells -/
def Obj.ob (o : Obj) : Ob := ⟨o.kind, o.data, o.entries, o.target, o.peer, .sl 4 (o.queue.map Msg.enc), o.proc, o.links, o.up⟩
theorem obs_eq (l : List Obj) : objsD l = obsD (l.map Obj.ob) := by
  show Dt.sl 9 (l.map Obj.enc) = Dt.sl 9 ((l.map Obj.ob).map Ob.enc)
  rw [List.map_map]
  rfl
theorem tri_eq (l : List Obj) : (l.map Obj.ob).map Ob.tri = l.map Obj.tri := by
  rw [List.map_map]
  rfl
theorem GoodK.lk {l : List Obj} {op : List Opn} {ps : List Prc} (h : GoodK l op ps) : LkOK (l.map Obj.ob) := by
  refine ⟨?_, ?_, fun o ho => ?_, fun o ho => ?_, fun o ho => ?_⟩
  · rw [List.length_map]; have := h.objs.len; omega
  · obtain ⟨o, ho, _⟩ := h.objs.root
    rw [List.length_map]
    exact (List.getElem?_eq_some_iff.1 ho).1
  · obtain ⟨x, hx, rfl⟩ := List.mem_map.1 ho
    rw [List.length_map]
    exact h.en x hx
  · obtain ⟨x, hx, rfl⟩ := List.mem_map.1 ho
    have := (h.objs.sm x hx).e
    show x.entries.length ≤ 64
    omega
  · obtain ⟨x, hx, rfl⟩ := List.mem_map.1 ho
    rw [List.length_map]
    have := h.tr.up x.tri (List.mem_map.2 ⟨x, hx, rfl⟩)
    rw [List.length_map] at this
    exact this
theorem l3 : lowF Tryd.prog Tryd.f3 = some c3 := by kernel_rfl
set_option maxRecDepth 100000 in
set_option maxHeartbeats 8000000 in
theorem ltells_body (b : List Int) (hb : BYb b) (base : Int) (s : Pth.Txt) (fence follow : Bool) (dir : Int) :
    body Tryd.prog c3 [.rv (.one (.dat (.sl 1 (byD b)))), vInt .i64 base, Pth.vT s, vBool fence, vBool follow, vInt .i64 dir] [] (fun r m => r = vBool true) := by
  refine build_ok b hb fun l op ps hk => ?_
  have ok := hk.lk
  have hl := ok.len
  unfold kernV
  rw [obs_eq]
  generalize l.map Obj.ob = k at ok hl
  refine path_ok k ok base s fence follow ?_
  refine rlook_ok k ok base s fence follow ?_
  generalize lookS k base s fence follow = r
  refine bB_yes (by simp) ?_
  refine bB_yes (by simp) ?_
  refine bB_yes (by simp) ?_
  refine bB_yes (by simp) ?_
  refine sben_ok k (by omega) dir base ?_
  refine rben_ok k (by omega) dir base ?_
  show vBool _ = vBool true
  simp
set_option maxRecDepth 100000 in
theorem ltells_ok (b : List Int) (hb : BYb b) (base : Int) (s : Pth.Txt) (fence follow : Bool) (dir : Int) :
    ACall Tryd.prog 3 [.rv (.one (.dat (.sl 1 (byD b)))), vInt .i64 base, Pth.vT s, vBool fence, vBool follow, vInt .i64 dir] [] (fun r m => r = vBool true) :=
  acall_body Tryd.func3 l3 rfl (Nat.le_of_ble_eq_true rfl) (ltells_body b hb base s fence follow dir)


end Go.Proofs.YtppecaflkpklfaaDoor
