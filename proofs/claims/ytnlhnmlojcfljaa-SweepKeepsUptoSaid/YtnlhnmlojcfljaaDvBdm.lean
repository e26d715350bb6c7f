import Derived.Test.YtnlhnmlojcfljaaAmZ2
import Derived.Test.YtnlhnmlojcfljaaDvChb
import Derived.Test.YtnlhnmlojcfljaaAmY
set_option linter.unusedVariables false
set_option linter.unusedSimpArgs false
namespace Go.Proofs.Ytnlhnmlojcfljaa
open Go.AM Go.ChangeShapes Go.WideShapes Go.ChangeAt Go.RowKit
def c20 : LF := ⟨34, [.tmp 4], (.seq (.reg [
    ⟨(some 4), .mov (.c (.rv (.one (.dat (.val (.int .i64 (0))))))), none⟩]) (.seq (.seq (.reg [
    ⟨(some 6), .mov (.t 0), none⟩,
    ⟨(some 7), .nilc (.t 6), none⟩,
    ⟨(some 8), .fadr 0 (.t 7), none⟩,
    ⟨(some 9), .load false 1 (.t 8), none⟩,
    ⟨(some 10), .len 1 (.t 9), none⟩,
    ⟨(some 11), .bin .eql (.t 10) (.c (.rv (.one (.dat (.val (.int .i64 (0))))))), none⟩,
    ⟨(some 12), .mov (.t 11), none⟩,
    ⟨(some 13), .mov (.t 1), (some (12, false))⟩,
    ⟨(some 14), .bin .lss (.t 13) (.c (.rv (.one (.dat (.val (.int .i64 (1))))))), (some (12, false))⟩,
    ⟨(some 15), .pick (.t 12) (.c (.rv (.one (.dat (.val (.bool true)))))) (.t 14), none⟩]) (.cond (.t 15) (.seq (.reg [
    ⟨(some 4), .mov (.c (.rv (.one (.dat (.val (.int .i64 (0))))))), none⟩]) .ret) .skip)) (.seq (.reg [
    ⟨(some 16), .mov (.t 0), none⟩,
    ⟨(some 17), .nilc (.t 16), none⟩,
    ⟨(some 18), .fadr 0 (.t 17), none⟩,
    ⟨(some 19), .load false 1 (.t 18), none⟩,
    ⟨(some 20), .idx 1 (.t 19) (.c (.rv (.one (.dat (.val (.int .i64 (0))))))), none⟩,
    ⟨(some 21), .load false 1 (.t 20), none⟩,
    ⟨(some 22), .conv .i64 (.t 21), none⟩,
    ⟨(some 23), .mov (.t 1), none⟩,
    ⟨(some 24), .bin .rem (.t 22) (.t 23), none⟩,
    ⟨(some 5), .mov (.t 24), none⟩]) (.seq (.reg [
    ⟨(some 25), .mov (.t 0), none⟩,
    ⟨(some 26), .mov (.t 0), none⟩,
    ⟨(some 27), .nilc (.t 26), none⟩,
    ⟨(some 28), .fadr 0 (.t 27), none⟩,
    ⟨(some 29), .load false 1 (.t 28), none⟩,
    ⟨(some 30), .slc 1 (.t 29) (some (.c (.rv (.one (.dat (.val (.int .i64 (1)))))))) none none, none⟩,
    ⟨(some 31), .nilc (.t 25), none⟩,
    ⟨(some 32), .fadr 0 (.t 31), none⟩,
    ⟨none, .store 1 (.t 32) (.t 30), none⟩]) (.seq (.reg [
    ⟨(some 33), .mov (.t 5), none⟩,
    ⟨(some 4), .mov (.t 33), none⟩]) .ret)))))⟩
def c23 : LF := ⟨24, [.tmp 6], (.seq (.reg [
    ⟨(some 5), .box (.t 2), none⟩,
    ⟨(some 6), .mov (.c (.rv (.one .esl))), none⟩]) (.seq (.reg [
    ⟨(some 8), .bsl 9 [(.dat (.val (.int .i64 (0)))), .esl, .esl, (.dat (.val (.string ⟨#[]⟩))), (.dat (.val (.int .i64 (0)))), .esl, (.dat (.val (.int .i64 (0)))), (.dat (.val (.int .i64 (0)))), (.dat (.val (.int .i64 (0))))] 0 [], none⟩,
    ⟨(some 9), .mov (.t 0), none⟩,
    ⟨(some 10), .app 9 128 (.t 8) (.t 9), none⟩,
    ⟨(some 7), .mov (.t 10), none⟩]) (.seq (.seq (.reg [
    ⟨(some 11), .mov (.t 1), none⟩,
    ⟨(some 12), .mov (.t 7), none⟩,
    ⟨(some 13), .len 1 (.t 12), none⟩,
    ⟨(some 14), .bin .eql (.t 11) (.t 13), none⟩]) (.cond (.t 14) (.seq (.reg [
    ⟨(some 15), .mov (.t 7), none⟩,
    ⟨(some 16), .load true 9 (.t 5), none⟩,
    ⟨(some 17), .bsl 9 [(.dat (.val (.int .i64 (0)))), .esl, .esl, (.dat (.val (.string ⟨#[]⟩))), (.dat (.val (.int .i64 (0)))), .esl, (.dat (.val (.int .i64 (0)))), (.dat (.val (.int .i64 (0)))), (.dat (.val (.int .i64 (0))))] 1 [(0, (.t 16))], none⟩,
    ⟨(some 18), .app 9 128 (.t 15) (.t 17), none⟩,
    ⟨(some 6), .mov (.t 18), none⟩]) .ret) .skip)) (.seq (.reg [
    ⟨(some 19), .mov (.t 7), none⟩,
    ⟨(some 20), .mov (.t 1), none⟩,
    ⟨(some 21), .load true 9 (.t 5), none⟩,
    ⟨(some 22), .idx 9 (.t 19) (.t 20), none⟩,
    ⟨none, .store 9 (.t 22) (.t 21), none⟩]) (.seq (.reg [
    ⟨(some 23), .mov (.t 7), none⟩,
    ⟨(some 6), .mov (.t 23), none⟩]) .ret)))))⟩
/-! Parts of Build: pick, Is, With, Make of the document -/
def byD (l : List Int) : List (List Dt) := l.map fun b => [.val (.int .u8 b)]
def pickS (b : List Int) (n : Int) : Int × List Int :=
  match b with
  | [] => (0, [])
  | x :: r => if n < 1 then (0, x :: r) else ((IntKind.i64.wrap x).tmod n, r)
theorem l20 : lowF Try.prog Try.f20 = some c20 := by kernel_rfl
set_option maxRecDepth 100000 in
theorem pick_post (b : List Int) (n : Int) : ACall Try.prog 20 [.rv (.one (.ptr 0 0)), vInt .i64 n] [.var [.dat (.sl 1 (byD b))]] (fun r m => r = vInt .i64 (pickS b n).1 ∧ m = [.var [.dat (.sl 1 (byD (pickS b n).2))]]) := by
  refine acall_body Try.func20 l20 rfl (Nat.le_of_ble_eq_true rfl) ?_
  cases b with
  | nil => exact ⟨rfl, rfl⟩
  | cons x r =>
    refine bB_dec (fun h => ?_) (fun h => ?_)
    · have e : pickS (x :: r) n = (0, x :: r) := by rw [pickS, if_pos h]
      rw [e]
      exact ⟨rfl, rfl⟩
    · have e : pickS (x :: r) n = ((IntKind.i64.wrap x).tmod n, r) := by rw [pickS, if_neg h]
      rw [e]
      have hr : binV .rem (.int .i64 (IntKind.i64.wrap x)) (.int .i64 n) = some (.int .i64 ((IntKind.i64.wrap x).tmod n)) := by
        have hn : decide (n = 0) = false := decide_eq_false (by omega)
        simp [binV, hn]
      refine ok_some hr ?_
      refine bB_yes (by simp [byD, Nat.ble_eq]) ?_
      refine ⟨rfl, ?_⟩
      show [Bk.var [.dat (.sl 1 (((byD (x :: r)).take (byD (x :: r)).length).drop 1))]] = _
      rw [List.take_length]
      rfl
theorem setN_one {m : Mem} {id : Nat} {b : Bk} : weave m [id] [b] = setN m id b := by
  simp only [weave, app2_eq, List.append_nil]
theorem pick_ok (b : List Int) (n : Int) {m : Mem} {K : CV → Mem → Prop} (id : Nat) (hb : nth m id = some (.var [.dat (.sl 1 (byD b))])) (h : K (vInt .i64 (pickS b n).1) (setN m id (.var [.dat (.sl 1 (byD (pickS b n).2))]))) :
    ACall Try.prog 20 [.rv (.one (.ptr id 0)), vInt .i64 n] m K := by
  have hid : id < m.length := by
    rw [nth_eq] at hb
    exact (List.getElem?_eq_some_iff.1 hb).1
  refine acall_borrow [id] m.length rfl rfl rfl (by simp [allLt, hid]) (args0 := [.rv (.one (.ptr 0 0)), vInt .i64 n]) rfl (fun i b' hi => ?_) (pick_post b n) (fun r1 m1 hr => ?_)
  · cases i with
    | zero =>
      simp at hi
      subst hi
      refine .inr ⟨fun h => h, _, ?_, .eq rfl (by simp)⟩
      rw [nth_eq] at hb
      exact hb
    | succ i => simp at hi
  · obtain ⟨rfl, rfl⟩ := hr
    refine ⟨Nat.le_refl _, ?_⟩
    show K (vInt .i64 (pickS b n).1) (weave m [id] [.var [.dat (.sl 1 (byD (pickS b n).2))]])
    rw [setN_one]
    exact h
/-! Is -/
def isS (l : List Obj) (k kind : Int) : Bool := decide (k ≥ 0) && (decide (k < l.length) && match l[k.toNat]? with | none => false | some o => o.kind != 0 && (kind == 0 || o.kind == kind))
/-! With -/
def withS (l : List Obj) (k : Int) (o : Obj) : List Obj := if k = l.length then l ++ [o] else l.set k.toNat o
theorem l23 : lowF Try.prog Try.f23 = some c23 := by kernel_rfl
set_option maxRecDepth 100000 in
set_option maxHeartbeats 4000000 in
theorem with_body (l : List Obj) (hl : l.length ≤ 4194304) (k : Nat) (hk : k ≤ l.length) (o : Obj) : body Try.prog c23 [objsV l, vInt .i64 (k : Nat), o.cv] [] (fun r m => FrzV m r (objsV (withS l k o))) := by
  have hlen : (dRows (l.map Obj.enc)).length = l.length := by simp [dRows]
  refine ⟨?_, ?_⟩
  · show (0 + (dRows (l.map Obj.enc)).length) * 128 ≤ _
    rw [hlen]; omega
  refine bB_beq (fun h => ?_) (fun h => ?_)
  · have h : k = l.length := by
      have h : (k : Int) = ((([] : List (List CC)) ++ dRows (l.map Obj.enc)).length : Int) := h
      simp [hlen] at h
      omega
    have e : withS l k o = l ++ [o] := by rw [withS, if_pos (by omega)]
    rw [e]
    refine ⟨?_, ?_⟩
    · show ((([] : List (List CC)) ++ dRows (l.map Obj.enc)).length + 1) * 128 ≤ _
      simp [hlen]; omega
    have hfin : some (Bk.row 9 ((([] : List (List CC)) ++ dRows (l.map Obj.enc)) ++ [o.enc.map .dat])) = some (Bk.row 9 (dRows ((l ++ [o]).map Obj.enc))) := by
      rw [List.map_append, dRows_append]; rfl
    exact .rv (.one (FrzC.rowD hfin 0 none))
  · have hlt : k < l.length := by
      have h : (k : Int) ≠ ((([] : List (List CC)) ++ dRows (l.map Obj.enc)).length : Int) := h
      simp [hlen] at h
      omega
    have e : withS l k o = l.set k o := by rw [withS, if_neg (by omega), Int.toNat_natCast]
    rw [e]
    refine ok_some (idxZ_nat (k := k) (by show k < lenOf (([] : List (List CC)) ++ dRows (l.map Obj.enc)).length 0 none; simp [hlen, lenOf]; omega)) ?_
    refine ok_some (x := l[k].enc.map .dat) (by show nth (([] : List (List CC)) ++ dRows (l.map Obj.enc)) (addN 0 k) = _; simpa [addN] using dRows_nth l hlt) ?_
    have hfin : some (Bk.row 9 (setN (([] : List (List CC)) ++ dRows (l.map Obj.enc)) (addN 0 k) (o.enc.map .dat))) = some (Bk.row 9 (dRows ((l.set k o).map Obj.enc))) := by
      rw [setN_eq, ← dRows_set]
      simp [addN]
    exact .rv (.one (FrzC.rowD hfin 0 none))
set_option maxRecDepth 100000 in
theorem with_ok (l : List Obj) (hl : l.length ≤ 4194304) (k : Nat) (hk : k ≤ l.length) (o : Obj) {m : Mem} {K : CV → Mem → Prop} (h : K (objsV (withS l k o)) m) : ACall Try.prog 23 [objsV l, vInt .i64 (k : Nat), o.cv] m K :=
  acall_frame (acall_body Try.func23 l23 rfl (Nat.le_of_ble_eq_true rfl) (with_body l hl k hk o)) (by simp [objsV, vInt, Obj.cv, CV.isD, CC.isD, RV.isD]) fun r m1 hf => ⟨_, hf, h⟩

def c21 : LF := ⟨29, [.tmp 4, .tmp 5, .tmp 6], (.seq (.reg [
    ⟨(some 3), .box (.t 1), none⟩,
    ⟨(some 4), .mov (.c (.rv (.one .esl))), none⟩,
    ⟨(some 5), .mov (.c (.rv (.one (.dat (.val (.int .i64 (0))))))), none⟩,
    ⟨(some 6), .mov (.c (.rv (.one (.dat (.val (.int .i64 (0))))))), none⟩]) (.seq (.reg [
    ⟨(some 7), .mov (.c (.rv (.one (.dat (.val (.int .i64 (0))))))), none⟩]) (.seq (.block 0 (.loop (.seq (.seq (.reg [
    ⟨(some 8), .mov (.t 7), none⟩,
    ⟨(some 9), .mov (.t 0), none⟩,
    ⟨(some 10), .len 1 (.t 9), none⟩,
    ⟨(some 11), .bin .lss (.t 8) (.t 10), none⟩,
    ⟨(some 12), .mov (.t 11), none⟩,
    ⟨(some 13), .mov (.t 0), (some (12, true))⟩,
    ⟨(some 14), .mov (.t 7), (some (12, true))⟩,
    ⟨(some 15), .idx 9 (.t 13) (.t 14), (some (12, true))⟩,
    ⟨(some 16), .fadr 0 (.t 15), (some (12, true))⟩,
    ⟨(some 17), .load false 1 (.t 16), (some (12, true))⟩,
    ⟨(some 18), .bin .neq (.t 17) (.c (.rv (.one (.dat (.val (.int .i64 (0))))))), (some (12, true))⟩,
    ⟨(some 19), .pick (.t 12) (.t 18) (.c (.rv (.one (.dat (.val (.bool false)))))), none⟩]) (.cond (.t 19) .skip (.exit 0))) (.block 1 (.reg [
    ⟨(some 20), .mov (.t 7), none⟩,
    ⟨(some 21), .bin .add (.t 20) (.c (.rv (.one (.dat (.val (.int .i64 (1))))))), none⟩,
    ⟨(some 7), .mov (.t 21), none⟩]))))) (.seq (.seq (.reg [
    ⟨(some 22), .mov (.t 7), none⟩,
    ⟨(some 23), .bin .geq (.t 22) (.c (.rv (.one (.dat (.val (.int .i64 (40))))))), none⟩]) (.cond (.t 23) (.seq (.reg [
    ⟨(some 4), .mov (.c (.rv (.one .esl))), none⟩,
    ⟨(some 5), .mov (.c (.rv (.one (.dat (.val (.int .i64 (0))))))), none⟩,
    ⟨(some 6), .mov (.c (.rv (.one (.dat (.val (.int .i64 (15))))))), none⟩]) .ret) .skip)) (.seq (.reg [
    ⟨(some 24), .mov (.t 0), none⟩,
    ⟨(some 25), .mov (.t 7), none⟩,
    ⟨(some 26), .load true 9 (.t 3), none⟩,
    ⟨(some 27), .call (.c (.rv (.one (.fn 23 [])))) [(.t 24), (.t 25), (.t 26)], none⟩,
    ⟨(some 28), .mov (.t 7), none⟩,
    ⟨(some 4), .mov (.t 27), none⟩,
    ⟨(some 5), .mov (.t 28), none⟩,
    ⟨(some 6), .mov (.c (.rv (.one (.dat (.val (.int .i64 (0))))))), none⟩]) .ret)))))⟩
/-! Make, Is of the document -/
def freeK (l : List Obj) : Nat := (l.findIdx? (fun o => o.kind == 0)).getD l.length
theorem freeK_at {l : List Obj} {k : Nat} (h : k < l.length) (h0 : l[k].kind = 0) (hb : ∀ (j : Nat) o, j < k → l[j]? = some o → o.kind ≠ 0) : freeK l = k := by
  have : l.findIdx? (fun o => o.kind == 0) = some k := by
    rw [List.findIdx?_eq_some_iff_getElem]
    exact ⟨h, by simpa using h0, fun j hj => by simpa using hb j _ hj (List.getElem?_eq_getElem (by omega))⟩
  rw [freeK, this]; rfl
theorem freeK_end {l : List Obj} (hb : ∀ (j : Nat) o, j < l.length → l[j]? = some o → o.kind ≠ 0) : freeK l = l.length := by
  have : l.findIdx? (fun o => o.kind == 0) = none := by
    rw [List.findIdx?_eq_none_iff]
    intro o ho
    obtain ⟨i, hi⟩ := List.getElem?_of_mem ho
    simpa using hb i o (List.getElem?_eq_some_iff.1 hi).1 hi
  rw [freeK, this]; rfl
theorem freeK_le (l : List Obj) : freeK l ≤ l.length := by
  unfold freeK
  cases h : l.findIdx? (fun o => o.kind == 0) with
  | none => exact Nat.le_refl _
  | some k =>
    have := (List.findIdx?_eq_some_iff_getElem.1 h).1
    simp only [Option.getD_some]
    omega
def rMakeS (l : List Obj) (o : Obj) : List Obj × Int × Int := if freeK l ≥ 40 then ([], 0, 15) else (withS l (freeK l) o, freeK l, 0)
theorem l21 : lowF Try.prog Try.f21 = some c21 := by kernel_rfl
set_option maxRecDepth 100000 in
set_option maxHeartbeats 4000000 in
theorem rmake_body (l : List Obj) (hl : l.length ≤ 4194304) (o : Obj) : body Try.prog c21 [objsV l, o.cv] [] (fun r m => FrzV m r (.tup [objsR (rMakeS l o).1, iRV (rMakeS l o).2.1, iRV (rMakeS l o).2.2])) := by
  refine loop_keep (fun k => k ≤ l.length ∧ ∀ (j : Nat) o, j < k → l[j]? = some o → o.kind ≠ 0) [0, 3] (fun k => [(7, vInt .i64 (k : Nat))]) (fun _ => [.var (o.enc.map .dat)]) (fun k => l.length - k) 0 ⟨Nat.zero_le _, fun j o h => absurd h (Nat.not_lt_zero j)⟩ ?_ (fun k hk => ?_)
  · refine View.of 1 [0] [] rfl rfl rfl rfl rfl rfl ?_ ?_
    · repeat (first | exact .nil | refine .junk ?_ | refine .eq rfl ?_)
    · exact .put (notF rfl) rfl (.eq rfl (by simp)) (.nil _)
  · obtain ⟨hkl, hkb⟩ := hk
    have hkl : k ≤ l.length := hkl
    have fin : ∀ (e : freeK l = k), (k ≥ 40 → rMakeS l o = ([], 0, 15)) ∧ (¬ k ≥ 40 → rMakeS l o = (withS l k o, (k : Int), 0)) := fun e =>
      ⟨fun h => by rw [rMakeS, e, if_pos h], fun h => by rw [rMakeS, e, if_neg h]⟩
    refine bB_dec (fun h => ?_) (fun h => ?_)
    · have hlt : k < l.length := by
        have h : (k : Int) < ((l.map Obj.enc).length : Int) := h
        rw [List.length_map] at h
        omega
      have hi := List.getElem?_eq_getElem hlt
      have hg : getZ (l.map Obj.enc) (k : Nat) = some (l[k].enc) := by
        rw [getZ_nat, List.getElem?_map, hi]; rfl
      have hat := freeK_at (l := l) hlt
      generalize l[k] = x at hi hg hat
      have hg : getZ (l.map Obj.enc) (k : Nat) = some [.val (.int .i64 x.kind), .sl 1 x.data, .sl 2 x.entries, .val (.string x.target), .val (.int .i64 x.peer), .sl 4 (x.queue.map Msg.enc), .val (.int .i64 x.proc), .val (.int .i64 x.links), .val (.int .i64 x.up)] := hg
      refine ok_some hg ?_
      refine bB_bne (fun hn => ?_) (fun h0 => ?_)
      · refine ⟨k + 1, ⟨hlt, fun j y hj hy => ?_⟩, (show l.length - (k + 1) < l.length - k by omega), View.of 1 [0] [] rfl rfl rfl rfl rfl rfl ?_ ?_⟩
        · rcases Nat.lt_or_ge j k with h5 | h5
          · exact hkb j y h5 hy
          · have : j = k := by omega
            subst this
            rw [hi] at hy
            cases hy
            exact hn
        · repeat (first | exact .nil | refine .junk ?_ | refine .put (.ren (next_i64 (by omega)).symm) ?_ | refine .eq rfl ?_)
        · exact .put (notF rfl) rfl (.eq rfl (by simp)) (.nil _)
      · obtain ⟨f1, f2⟩ := fin (hat h0 hkb)
        refine bB_dec (fun h => ?_) (fun h => ?_)
        · rw [f1 (by have h : (k : Int) ≥ 40 := h; omega)]
          exact frz3 (.one (.esl 9)) (FrzR.self rfl)
        · rw [f2 (by have h : ¬ (k : Int) ≥ 40 := h; omega)]
          refine with_ok l hl k hkl o ?_
          exact frz3 (FrzR.self rfl) (FrzR.self rfl)
    · have hge : k = l.length := by
        have h : ¬ (k : Int) < ((l.map Obj.enc).length : Int) := h
        rw [List.length_map] at h
        omega
      obtain ⟨f1, f2⟩ := fin (by rw [hge]; exact freeK_end fun j o hj ho => hkb j o (by omega) ho)
      refine bB_dec (fun h => ?_) (fun h => ?_)
      · rw [f1 (by have h : (k : Int) ≥ 40 := h; omega)]
        exact frz3 (.one (.esl 9)) (FrzR.self rfl)
      · rw [f2 (by have h : ¬ (k : Int) ≥ 40 := h; omega)]
        refine with_ok l hl k hkl o ?_
        exact frz3 (FrzR.self rfl) (FrzR.self rfl)
set_option maxRecDepth 100000 in
theorem rmake_ok (l : List Obj) (hl : l.length ≤ 4194304) (o : Obj) {m : Mem} {K : CV → Mem → Prop} (h : K (.tup [objsR (rMakeS l o).1, iRV (rMakeS l o).2.1, iRV (rMakeS l o).2.2]) m) : ACall Try.prog 21 [objsV l, o.cv] m K :=
  acall_frame (acall_body Try.func21 l21 rfl (Nat.le_of_ble_eq_true rfl) (rmake_body l hl o)) (by simp [objsV, Obj.cv, CV.isD, CC.isD, RV.isD]) fun r m1 hf => ⟨_, hf, h⟩

def c28 : LF := ⟨36, [.tmp 6], (.seq (.reg [
    ⟨(some 6), .mov (.c (.rv (.one (.dat (.val (.bool false)))))), none⟩]) (.seq (.reg [
    ⟨(some 7), .mov (.t 1), none⟩,
    ⟨(some 8), .bin .geq (.t 7) (.c (.rv (.one (.dat (.val (.int .i64 (0))))))), none⟩,
    ⟨(some 9), .mov (.t 8), none⟩,
    ⟨(some 10), .mov (.t 1), (some (9, true))⟩,
    ⟨(some 11), .mov (.t 0), (some (9, true))⟩,
    ⟨(some 12), .len 1 (.t 11), (some (9, true))⟩,
    ⟨(some 13), .bin .lss (.t 10) (.t 12), (some (9, true))⟩,
    ⟨(some 14), .pick (.t 9) (.t 13) (.c (.rv (.one (.dat (.val (.bool false)))))), none⟩,
    ⟨(some 15), .mov (.t 14), none⟩,
    ⟨(some 16), .mov (.t 0), (some (15, true))⟩,
    ⟨(some 17), .mov (.t 1), (some (15, true))⟩,
    ⟨(some 18), .idx 9 (.t 16) (.t 17), (some (15, true))⟩,
    ⟨(some 19), .fadr 0 (.t 18), (some (15, true))⟩,
    ⟨(some 20), .load false 1 (.t 19), (some (15, true))⟩,
    ⟨(some 21), .bin .neq (.t 20) (.c (.rv (.one (.dat (.val (.int .i64 (0))))))), (some (15, true))⟩,
    ⟨(some 22), .pick (.t 15) (.t 21) (.c (.rv (.one (.dat (.val (.bool false)))))), none⟩,
    ⟨(some 23), .mov (.t 22), none⟩,
    ⟨(some 24), .mov (.t 2), (some (23, true))⟩,
    ⟨(some 25), .bin .eql (.t 24) (.c (.rv (.one (.dat (.val (.int .i64 (0))))))), (some (23, true))⟩,
    ⟨(some 26), .mov (.t 25), (some (23, true))⟩,
    ⟨(some 27), .mov (.t 0), (some (26, false))⟩,
    ⟨(some 28), .mov (.t 1), (some (26, false))⟩,
    ⟨(some 29), .idx 9 (.t 27) (.t 28), (some (26, false))⟩,
    ⟨(some 30), .fadr 0 (.t 29), (some (26, false))⟩,
    ⟨(some 31), .load false 1 (.t 30), (some (26, false))⟩,
    ⟨(some 32), .mov (.t 2), (some (26, false))⟩,
    ⟨(some 33), .bin .eql (.t 31) (.t 32), (some (26, false))⟩,
    ⟨(some 34), .pick (.t 26) (.c (.rv (.one (.dat (.val (.bool true)))))) (.t 33), (some (23, true))⟩,
    ⟨(some 35), .pick (.t 23) (.t 34) (.c (.rv (.one (.dat (.val (.bool false)))))), none⟩,
    ⟨(some 6), .mov (.t 35), none⟩]) .ret))⟩
theorem l28 : lowF Try.prog Try.f28 = some c28 := by kernel_rfl
set_option maxRecDepth 100000 in
set_option maxHeartbeats 4000000 in
theorem is_body (l : List Obj) (k kind : Int) : body Try.prog c28 [objsV l, vInt .i64 k, vInt .i64 kind] [] (fun r m => r = vBool (isS l k kind)) := by
  refine bB_dec (fun h0 => ?_) (fun h0 => ?_)
  · obtain ⟨n, rfl⟩ : ∃ n : Nat, k = n := ⟨k.toNat, by omega⟩
    refine bB_dec (fun h => ?_) (fun h => ?_)
    · have hlt : n < l.length := by
        have h : (n : Int) < ((l.map Obj.enc).length : Int) := h
        rw [List.length_map] at h
        omega
      have hi := List.getElem?_eq_getElem hlt
      have hS : isS l (n : Int) kind = (l[n].kind != 0 && (kind == 0 || l[n].kind == kind)) := by
        simp [isS, hlt]
      have hg : getZ (l.map Obj.enc) (n : Nat) = some (l[n].enc) := by
        rw [getZ_nat, List.getElem?_map, hi]; rfl
      generalize l[n] = x at hS hg
      have hg : getZ (l.map Obj.enc) (n : Nat) = some [.val (.int .i64 x.kind), .sl 1 x.data, .sl 2 x.entries, .val (.string x.target), .val (.int .i64 x.peer), .sl 4 (x.queue.map Msg.enc), .val (.int .i64 x.proc), .val (.int .i64 x.links), .val (.int .i64 x.up)] := hg
      refine ok_some hg ?_
      refine bB_split (fun h1 => ?_) (fun h1 => ?_)
      · refine bB_split (fun h2 => ?_) (fun h2 => ?_)
        · show vBool _ = vBool _
          rw [hS, h1, h2]; rfl
        · refine ok_some hg ?_
          show vBool _ = vBool _
          rw [hS, h1, h2]; rfl
      · show vBool _ = vBool _
        rw [hS, h1]; rfl
    · have hge : ¬ n < l.length := by
        have h : ¬ (n : Int) < ((l.map Obj.enc).length : Int) := h
        rw [List.length_map] at h
        omega
      have hS : isS l (n : Int) kind = false := by simp [isS, hge]
      show vBool _ = vBool _
      rw [hS]
  · have hS : isS l k kind = false := by
      have : decide (k ≥ 0) = false := decide_eq_false h0
      simp [isS, this]
    show vBool _ = vBool _
    rw [hS]
set_option maxRecDepth 100000 in
theorem is_ok (l : List Obj) (k kind : Int) {m : Mem} {K : CV → Mem → Prop} (h : K (vBool (isS l k kind)) m) : ACall Try.prog 28 [objsV l, vInt .i64 k, vInt .i64 kind] m K :=
  acall_val Try.func28 l28 rfl (Nat.le_of_ble_eq_true rfl) (is_body l k kind) rfl rfl h

end Go.Proofs.Ytnlhnmlojcfljaa
