import Derived.Test.YtflieebgiejjpaaAmZ2
import Derived.Test.YtflieebgiejjpaaDvRd5
import Derived.Test.YtflieebgiejjpaaAmY
set_option linter.unusedVariables false
set_option linter.unusedSimpArgs false
namespace Go.Proofs.Ytflieebgiejjpaa
open Go.AM Go.ChangeShapes Go.WideShapes Go.ChangeAt Go.RowKit
/-! Objects whose queue may be of no room: With, Make, Is, Find, Enter of the document over them -/
def noD : Dt := .val (.slice none 0 0)
structure Ob where
  kind : Int
  data : List (List Dt)
  entries : List (List Dt)
  target : ByteArray
  peer : Int
  queue : Dt
  proc : Int
  links : Int
  up : Int
def Ob.enc (o : Ob) : List Dt := [.val (.int .i64 o.kind), .sl 1 o.data, .sl 2 o.entries, .val (.string o.target), .val (.int .i64 o.peer), o.queue, .val (.int .i64 o.proc), .val (.int .i64 o.links), .val (.int .i64 o.up)]
def Ob.cv (o : Ob) : CV := .rv (.agg (o.enc.map .dat))
def obsD (l : List Ob) : Dt := .sl 9 (l.map Ob.enc)
def obsV (l : List Ob) : CV := .rv (.one (.dat (obsD l)))
def obsR (l : List Ob) : RV := .one (.dat (obsD l))
def twoVB (l : List Ob) (e : Int) : CV := .tup [obsR l, iRV e]
theorem dRows_setB (l : List Ob) (k : Nat) (o : Ob) : (dRows (l.map Ob.enc)).set k (o.enc.map .dat) = dRows ((l.set k o).map Ob.enc) := by
  simp [dRows, List.map_set]
/-! Is -/
def isSB (l : List Ob) (k kind : Int) : Bool := decide (k ≥ 0) && (decide (k < l.length) && match l[k.toNat]? with | none => false | some o => o.kind != 0 && (kind == 0 || o.kind == kind))
/-! With -/
def withSB (l : List Ob) (k : Int) (o : Ob) : List Ob := if k = l.length then l ++ [o] else l.set k.toNat o
set_option maxRecDepth 100000 in
set_option maxHeartbeats 4000000 in
theorem with_bodyB (l : List Ob) (hl : l.length ≤ 4194304) (k : Nat) (hk : k ≤ l.length) (o : Ob) : body Try.prog c73 [obsV l, vInt .i64 (k : Nat), o.cv] [] (fun r m => FrzV m r (obsV (withSB l k o))) := by
  have hlen : (dRows (l.map Ob.enc)).length = l.length := by simp [dRows]
  refine ⟨?_, ?_⟩
  · show (0 + (dRows (l.map Ob.enc)).length) * 128 ≤ _
    rw [hlen]; omega
  refine bB_beq (fun h => ?_) (fun h => ?_)
  · have h : k = l.length := by
      have h : (k : Int) = ((([] : List (List CC)) ++ dRows (l.map Ob.enc)).length : Int) := h
      simp [hlen] at h
      omega
    have e : withSB l k o = l ++ [o] := by rw [withSB, if_pos (by omega)]
    rw [e]
    refine ⟨?_, ?_⟩
    · show ((([] : List (List CC)) ++ dRows (l.map Ob.enc)).length + 1) * 128 ≤ _
      simp [hlen]; omega
    have hfin : some (Bk.row 9 ((([] : List (List CC)) ++ dRows (l.map Ob.enc)) ++ [o.enc.map .dat])) = some (Bk.row 9 (dRows ((l ++ [o]).map Ob.enc))) := by
      rw [List.map_append, dRows_append]; rfl
    exact .rv (.one (FrzC.rowD hfin 0 none))
  · have hlt : k < l.length := by
      have h : (k : Int) ≠ ((([] : List (List CC)) ++ dRows (l.map Ob.enc)).length : Int) := h
      simp [hlen] at h
      omega
    have e : withSB l k o = l.set k o := by rw [withSB, if_neg (by omega), Int.toNat_natCast]
    rw [e]
    refine ok_some (idxZ_nat (k := k) (by show k < lenOf (([] : List (List CC)) ++ dRows (l.map Ob.enc)).length 0 none; simp [hlen, lenOf]; omega)) ?_
    refine ok_some (x := l[k].enc.map .dat) (by show nth (([] : List (List CC)) ++ dRows (l.map Ob.enc)) (addN 0 k) = _; simpa [addN] using dRows_nth' Ob.enc l hlt) ?_
    have hfin : some (Bk.row 9 (setN (([] : List (List CC)) ++ dRows (l.map Ob.enc)) (addN 0 k) (o.enc.map .dat))) = some (Bk.row 9 (dRows ((l.set k o).map Ob.enc))) := by
      rw [setN_eq, ← dRows_setB]
      simp [addN]
    exact .rv (.one (FrzC.rowD hfin 0 none))
set_option maxRecDepth 100000 in
theorem with_okB (l : List Ob) (hl : l.length ≤ 4194304) (k : Nat) (hk : k ≤ l.length) (o : Ob) {m : Mem} {K : CV → Mem → Prop} (h : K (obsV (withSB l k o)) m) : ACall Try.prog 73 [obsV l, vInt .i64 (k : Nat), o.cv] m K :=
  acall_frame (acall_body Try.func73 l73 rfl (Nat.le_of_ble_eq_true rfl) (with_bodyB l hl k hk o)) (by simp [obsV, vInt, Ob.cv, CV.isD, CC.isD, RV.isD]) fun r m1 hf => ⟨_, hf, h⟩
/-! Make, Is of the document -/
def freeKB (l : List Ob) : Nat := (l.findIdx? (fun o => o.kind == 0)).getD l.length
theorem freeK_atB {l : List Ob} {k : Nat} (h : k < l.length) (h0 : l[k].kind = 0) (hb : ∀ (j : Nat) o, j < k → l[j]? = some o → o.kind ≠ 0) : freeKB l = k := by
  have : l.findIdx? (fun o => o.kind == 0) = some k := by
    rw [List.findIdx?_eq_some_iff_getElem]
    exact ⟨h, by simpa using h0, fun j hj => by simpa using hb j _ hj (List.getElem?_eq_getElem (by omega))⟩
  rw [freeKB, this]; rfl
theorem freeK_endB {l : List Ob} (hb : ∀ (j : Nat) o, j < l.length → l[j]? = some o → o.kind ≠ 0) : freeKB l = l.length := by
  have : l.findIdx? (fun o => o.kind == 0) = none := by
    rw [List.findIdx?_eq_none_iff]
    intro o ho
    obtain ⟨i, hi⟩ := List.getElem?_of_mem ho
    simpa using hb i o (List.getElem?_eq_some_iff.1 hi).1 hi
  rw [freeKB, this]; rfl
theorem freeK_leB (l : List Ob) : freeKB l ≤ l.length := by
  unfold freeKB
  cases h : l.findIdx? (fun o => o.kind == 0) with
  | none => exact Nat.le_refl _
  | some k =>
    have := (List.findIdx?_eq_some_iff_getElem.1 h).1
    simp only [Option.getD_some]
    omega
def rMakeSB (l : List Ob) (o : Ob) : List Ob × Int × Int := if freeKB l ≥ 40 then ([], 0, 15) else (withSB l (freeKB l) o, freeKB l, 0)
set_option maxRecDepth 100000 in
set_option maxHeartbeats 4000000 in
theorem rmake_bodyB (l : List Ob) (hl : l.length ≤ 4194304) (o : Ob) : body Try.prog c71 [obsV l, o.cv] [] (fun r m => FrzV m r (.tup [obsR (rMakeSB l o).1, iRV (rMakeSB l o).2.1, iRV (rMakeSB l o).2.2])) := by
  refine loop_keep (fun k => k ≤ l.length ∧ ∀ (j : Nat) o, j < k → l[j]? = some o → o.kind ≠ 0) [0, 3] (fun k => [(7, vInt .i64 (k : Nat))]) (fun _ => [.var (o.enc.map .dat)]) (fun k => l.length - k) 0 ⟨Nat.zero_le _, fun j o h => absurd h (Nat.not_lt_zero j)⟩ ?_ (fun k hk => ?_)
  · refine View.of 1 [0] [] rfl rfl rfl rfl rfl rfl ?_ ?_
    · repeat (first | exact .nil | refine .junk ?_ | refine .eq rfl ?_)
    · exact .put (notF rfl) rfl (.eq rfl (by simp)) (.nil _)
  · obtain ⟨hkl, hkb⟩ := hk
    have hkl : k ≤ l.length := hkl
    have fin : ∀ (e : freeKB l = k), (k ≥ 40 → rMakeSB l o = ([], 0, 15)) ∧ (¬ k ≥ 40 → rMakeSB l o = (withSB l k o, (k : Int), 0)) := fun e =>
      ⟨fun h => by rw [rMakeSB, e, if_pos h], fun h => by rw [rMakeSB, e, if_neg h]⟩
    refine bB_dec (fun h => ?_) (fun h => ?_)
    · have hlt : k < l.length := by
        have h : (k : Int) < ((l.map Ob.enc).length : Int) := h
        rw [List.length_map] at h
        omega
      have hi := List.getElem?_eq_getElem hlt
      have hg : getZ (l.map Ob.enc) (k : Nat) = some (l[k].enc) := by
        rw [getZ_nat, List.getElem?_map, hi]; rfl
      have hat := freeK_atB (l := l) hlt
      generalize l[k] = x at hi hg hat
      have hg : getZ (l.map Ob.enc) (k : Nat) = some [.val (.int .i64 x.kind), .sl 1 x.data, .sl 2 x.entries, .val (.string x.target), .val (.int .i64 x.peer), x.queue, .val (.int .i64 x.proc), .val (.int .i64 x.links), .val (.int .i64 x.up)] := hg
      refine ok_some hg ?_
      refine bB_bne (fun hn => ?_) (fun h0 => ?_)
      · refine ⟨k + 1, ⟨hlt, fun j y hj hy => ?_⟩, (show l.length - (k + 1) < l.length - k by omega), View.of 1 [0] [] rfl rfl rfl rfl rfl rfl ?_ ?_⟩
        · rcases Nat.lt_or_ge j k with h5 | h5
          · exact hkb j y h5 hy
          · have : j = k := by omega
            subst this
            rw [hi] at hy
            cases hy
            exact hn
        · repeat (first | exact .nil | refine .junk ?_ | refine .put (.ren (next_i64 (by omega)).symm) ?_ | refine .eq rfl ?_)
        · exact .put (notF rfl) rfl (.eq rfl (by simp)) (.nil _)
      · obtain ⟨f1, f2⟩ := fin (hat h0 hkb)
        refine bB_dec (fun h => ?_) (fun h => ?_)
        · rw [f1 (by have h : (k : Int) ≥ 40 := h; omega)]
          exact frz3 (.one (.esl 9)) (FrzR.self rfl)
        · rw [f2 (by have h : ¬ (k : Int) ≥ 40 := h; omega)]
          refine with_okB l hl k hkl o ?_
          exact frz3 (FrzR.self rfl) (FrzR.self rfl)
    · have hge : k = l.length := by
        have h : ¬ (k : Int) < ((l.map Ob.enc).length : Int) := h
        rw [List.length_map] at h
        omega
      obtain ⟨f1, f2⟩ := fin (by rw [hge]; exact freeK_endB fun j o hj ho => hkb j o (by omega) ho)
      refine bB_dec (fun h => ?_) (fun h => ?_)
      · rw [f1 (by have h : (k : Int) ≥ 40 := h; omega)]
        exact frz3 (.one (.esl 9)) (FrzR.self rfl)
      · rw [f2 (by have h : ¬ (k : Int) ≥ 40 := h; omega)]
        refine with_okB l hl k hkl o ?_
        exact frz3 (FrzR.self rfl) (FrzR.self rfl)
set_option maxRecDepth 100000 in
theorem rmake_okB (l : List Ob) (hl : l.length ≤ 4194304) (o : Ob) {m : Mem} {K : CV → Mem → Prop} (h : K (.tup [obsR (rMakeSB l o).1, iRV (rMakeSB l o).2.1, iRV (rMakeSB l o).2.2]) m) : ACall Try.prog 71 [obsV l, o.cv] m K :=
  acall_frame (acall_body Try.func71 l71 rfl (Nat.le_of_ble_eq_true rfl) (rmake_bodyB l hl o)) (by simp [obsV, Ob.cv, CV.isD, CC.isD, RV.isD]) fun r m1 hf => ⟨_, hf, h⟩
set_option maxRecDepth 100000 in
set_option maxHeartbeats 4000000 in
theorem is_bodyB (l : List Ob) (k kind : Int) : body Try.prog c75 [obsV l, vInt .i64 k, vInt .i64 kind] [] (fun r m => r = vBool (isSB l k kind)) := by
  refine bB_dec (fun h0 => ?_) (fun h0 => ?_)
  · obtain ⟨n, rfl⟩ : ∃ n : Nat, k = n := ⟨k.toNat, by omega⟩
    refine bB_dec (fun h => ?_) (fun h => ?_)
    · have hlt : n < l.length := by
        have h : (n : Int) < ((l.map Ob.enc).length : Int) := h
        rw [List.length_map] at h
        omega
      have hi := List.getElem?_eq_getElem hlt
      have hS : isSB l (n : Int) kind = (l[n].kind != 0 && (kind == 0 || l[n].kind == kind)) := by
        simp [isSB, hlt]
      have hg : getZ (l.map Ob.enc) (n : Nat) = some (l[n].enc) := by
        rw [getZ_nat, List.getElem?_map, hi]; rfl
      generalize l[n] = x at hS hg
      have hg : getZ (l.map Ob.enc) (n : Nat) = some [.val (.int .i64 x.kind), .sl 1 x.data, .sl 2 x.entries, .val (.string x.target), .val (.int .i64 x.peer), x.queue, .val (.int .i64 x.proc), .val (.int .i64 x.links), .val (.int .i64 x.up)] := hg
      refine ok_some hg ?_
      refine bB_split (fun h1 => ?_) (fun h1 => ?_)
      · refine bB_split (fun h2 => ?_) (fun h2 => ?_)
        · show vBool _ = vBool _
          rw [hS, h1, h2]; rfl
        · refine ok_some hg ?_
          show vBool _ = vBool _
          rw [hS, h1, h2]; rfl
      · show vBool _ = vBool _
        rw [hS, h1]; rfl
    · have hge : ¬ n < l.length := by
        have h : ¬ (n : Int) < ((l.map Ob.enc).length : Int) := h
        rw [List.length_map] at h
        omega
      have hS : isSB l (n : Int) kind = false := by simp [isSB, hge]
      show vBool _ = vBool _
      rw [hS]
  · have hS : isSB l k kind = false := by
      have : decide (k ≥ 0) = false := decide_eq_false h0
      simp [isSB, this]
    show vBool _ = vBool _
    rw [hS]
set_option maxRecDepth 100000 in
theorem is_okB (l : List Ob) (k kind : Int) {m : Mem} {K : CV → Mem → Prop} (h : K (vBool (isSB l k kind)) m) : ACall Try.prog 75 [obsV l, vInt .i64 k, vInt .i64 kind] m K :=
  acall_val Try.func75 l75 rfl (Nat.le_of_ble_eq_true rfl) (is_bodyB l k kind) rfl rfl h
theorem obj_getB {l : List Ob} {k : Nat} (h : k < l.length) : getZ (l.map Ob.enc) (k : Nat) = some [.val (.int .i64 l[k].kind), .sl 1 l[k].data, .sl 2 l[k].entries, .val (.string l[k].target), .val (.int .i64 l[k].peer), l[k].queue, .val (.int .i64 l[k].proc), .val (.int .i64 l[k].links), .val (.int .i64 l[k].up)] := by
  rw [getZ_nat, List.getElem?_map, List.getElem?_eq_getElem h]; rfl
theorem is4_yesB {l : List Ob} {k c : Int} (hc : c ≠ 0) (h : isSB l k c = true) : ∃ n : Nat, k = n ∧ ∃ hn : n < l.length, l[n].kind = c := by
  unfold isSB at h
  by_cases h0 : k ≥ 0
  · obtain ⟨n, rfl⟩ : ∃ n : Nat, k = n := ⟨k.toNat, by omega⟩
    by_cases hn : n < l.length
    · refine ⟨n, rfl, hn, ?_⟩
      simp [hn, hc] at h
      exact h.2
    · simp [hn] at h
  · simp [h0] at h
theorem is4_noB {l : List Ob} {k c : Int} (hc : c ≠ 0) (h : isSB l k c = false) {n : Nat} (hk : k = n) (hn : n < l.length) : l[n].kind ≠ c := by
  subst hk
  intro hkc
  rw [isSB] at h
  simp [hn, hkc, hc] at h
theorem is0_yesB {l : List Ob} {k : Int} (h : isSB l k 0 = true) : ∃ n : Nat, k = n ∧ n < l.length := by
  unfold isSB at h
  by_cases h0 : k ≥ 0
  · obtain ⟨n, rfl⟩ : ∃ n : Nat, k = n := ⟨k.toNat, by omega⟩
    by_cases hn : n < l.length
    · exact ⟨n, rfl, hn⟩
    · simp [hn] at h
  · simp [h0] at h
/-- small, of the right shape, and nothing waits in it, nor may without room of its own -/
structure Ob.sm (o : Ob) : Prop where
  t : (∃ b : List Int, o.data = byD b) ∧ (∃ es : List (ByteArray × Int), o.entries = es.map entD)
  d : o.data.length ≤ 64
  e : o.entries.length ≤ 8
  q : o.queue = noD
structure GoodN (l : List Ob) : Prop where
  len : l.length ≤ 40
  sm : ∀ o, o ∈ l → o.sm
  root : ∃ o, l[0]? = some o ∧ o.kind = 2
theorem GoodN.set {l : List Ob} (h : GoodN l) {n : Nat} {o : Ob} (ho : o.sm) (hn : n < l.length) (hk : o.kind = l[n].kind) : GoodN (l.set n o) := by
  refine ⟨by simpa using h.len, fun x hx => ?_, ?_⟩
  · rcases List.mem_or_eq_of_mem_set hx with hx | rfl
    · exact h.sm x hx
    · exact ho
  · obtain ⟨r, hr, hr2⟩ := h.root
    by_cases h0 : n = 0
    · subst h0
      refine ⟨o, by simp [hn], ?_⟩
      rw [hk]
      rw [List.getElem?_eq_getElem hn] at hr
      cases hr
      exact hr2
    · exact ⟨r, by rw [List.getElem?_set_ne (by omega)]; exact hr, hr2⟩
set_option maxRecDepth 100000 in
set_option maxHeartbeats 8000000 in
theorem find_bodyB (l : List Ob) (hg : GoodN l) (dir : Int) (name : ByteArray) : body Try.prog c108 [obsV l, vInt .i64 dir, vStr name] [] (fun r m => ∃ n, r = vInt .i64 n) := by
  refine is_okB l dir 2 ?_
  by_cases hI : isSB l dir 2 = true
  · rw [hI]
    obtain ⟨n, rfl, hn, hk⟩ := is4_yesB (by decide) hI
    refine ok_some (obj_getB hn) ?_
    have hsm := hg.sm _ (List.getElem_mem hn)
    generalize l[n] = o at hsm
    obtain ⟨kind, data, entries, target, peer, queue, proc, links, up⟩ := o
    obtain ⟨es, rfl⟩ : ∃ es : List (ByteArray × Int), entries = es.map entD := hsm.t.2
    have hlen : es.length ≤ 8 := by have := hsm.e; simpa using this
    refine loop_keep (fun k => k ≤ es.length) [2, 17, 18] (fun k => [(19, vInt .i64 (k : Nat))]) (fun _ => []) (fun k => es.length - k) 0 (Nat.zero_le _) ?_ (fun k hk => ?_)
    · refine View.of 0 [] [] rfl rfl rfl rfl rfl rfl ?_ (.nil _)
      repeat (first | exact .nil | refine .junk ?_ | refine .eq rfl ?_)
    have hk : k ≤ es.length := hk
    refine bB_dec (fun h => ?_) (fun h => ?_)
    · have hlt : k < es.length := by
        have h : (k : Int) < ((es.map entD).length : Int) := h
        rw [List.length_map] at h
        omega
      refine ok_some (ent_get hlt) ?_
      refine bB_split (fun _ => ?_) (fun _ => ?_)
      · exact ⟨_, rfl⟩
      · refine ⟨k + 1, hlt, (show es.length - (k + 1) < es.length - k by omega), View.of 1 [] [] rfl rfl rfl rfl rfl rfl ?_ (.nil _)⟩
        repeat (first | exact .nil | refine .junk ?_ | refine .put (.ren (next_i64 (by omega)).symm) ?_ | refine .eq rfl ?_)
    · exact ⟨_, rfl⟩
  · rw [Bool.not_eq_true] at hI
    rw [hI]
    exact ⟨_, rfl⟩
set_option maxRecDepth 100000 in
theorem find_okB (l : List Ob) (hg : GoodN l) (dir : Int) (name : ByteArray) {m : Mem} {K : CV → Mem → Prop} (h : ∀ n, K (vInt .i64 n) m) : ACall Try.prog 108 [obsV l, vInt .i64 dir, vStr name] m K := by
  refine acall_frame (K0 := fun r _ => ∃ n, r = vInt .i64 n) (acall_body Try.func108 l108 rfl (Nat.le_of_ble_eq_true rfl) (find_bodyB l hg dir name)) (by simp [vStr, vInt, obsV, CV.isD, CC.isD, RV.isD]) fun r m1 hr => ?_
  obtain ⟨b, rfl⟩ := hr
  exact ⟨_, FrzV.self rfl, h b⟩
theorem with_goodB {l1 : List Ob} (g : GoodN l1) {p : Nat} (hp1 : p < l1.length) (lk u : Int) : GoodN (withSB l1 p { l1[p] with links := lk, up := u }) ∧ (withSB l1 p { l1[p] with links := lk, up := u }).length = l1.length := by
  have hw : withSB l1 p { l1[p] with links := lk, up := u } = l1.set p { l1[p] with links := lk, up := u } := by
    rw [withSB, if_neg (by omega)]; simp
  have hs := g.sm _ (List.getElem_mem hp1)
  rw [hw]
  exact ⟨g.set ⟨hs.t, hs.d, hs.e, hs.q⟩ hp1 rfl, by simp⟩
set_option maxRecDepth 100000 in
set_option maxHeartbeats 16000000 in
theorem enter_bodyB (l : List Ob) (hg : GoodN l) (dir : Int) (name : ByteArray) (hs : name.size ≤ 4194304) (obj : Int) : body Try.prog c72 [obsV l, vInt .i64 dir, vStr name, vInt .i64 obj] []
    (fun r m => ∃ y e, (e = 0 → GoodN y ∧ y.length = l.length) ∧ FrzV m r (twoVB y e)) := by
  refine is_okB l dir 0 ?_
  by_cases hI : isSB l dir 0 = true
  · rw [hI]
    obtain ⟨n, rfl, hn⟩ := is0_yesB hI
    refine is_okB l obj 0 ?_
    by_cases hI2 : isSB l obj 0 = true
    · rw [hI2]
      obtain ⟨p, rfl, hp⟩ := is0_yesB hI2
      have hog := obj_getB hn
      refine ok_some hog ?_
      have hsm := hg.sm _ (List.getElem_mem hn)
      have hset := fun (o : Ob) (ho : o.sm) (hk : o.kind = l[n].kind) => hg.set ho hn hk
      generalize l[n] = o at hsm hog hset
      obtain ⟨kind, data, entries, target, peer, queue, proc, links, up⟩ := o
      obtain ⟨es, rfl⟩ : ∃ es : List (ByteArray × Int), entries = es.map entD := hsm.t.2
      have hlen : es.length ≤ 8 := by have := hsm.e; simpa using this
      refine bB_bne (fun h => ?_) (fun h => ?_)
      · exact ⟨[], 11, fun h => absurd h (by decide), frz2 (.one (.esl 9))⟩
      refine ok_some hog ?_
      refine bB_beq (fun h => ?_) (fun h => ?_)
      · exact ⟨[], 6, fun h => absurd h (by decide), frz2 (.one (.esl 9))⟩
      refine name_ok name hs fun b => ?_
      cases b with
      | false => exact ⟨[], 7, fun h => absurd h (by decide), frz2 (.one (.esl 9))⟩
      | true =>
        refine find_okB l hg n name fun f => ?_
        refine bB_dec (fun h => ?_) (fun h => ?_)
        · exact ⟨[], 7, fun h => absurd h (by decide), frz2 (.one (.esl 9))⟩
        refine ok_some hog ?_
        refine bB_dec (fun h => ?_) (fun h8 => ?_)
        · exact ⟨[], 15, fun h => absurd h (by decide), frz2 (.one (.esl 9))⟩
        have h8 : es.length < 8 := by
          have h : ¬ (((es.map entD).length : Int) ≥ 8) := h8
          rw [List.length_map] at h
          omega
        refine ok_some hog ?_
        refine ok_some hog ?_
        have after : ∀ acc : List (ByteArray × Int), acc.length ≤ 8 → ∃ l1, withSB l n ⟨kind, data, acc.map entD, target, peer, queue, proc, links, up⟩ = l1 ∧ l1.length ≤ 4194304 ∧ ∃ hp1 : p < l1.length,
            ∀ lk u : Int, GoodN (withSB l1 p { l1[p] with links := lk, up := u }) ∧ (withSB l1 p { l1[p] with links := lk, up := u }).length = l.length := by
          intro acc hacc
          have hw : withSB l n ⟨kind, data, acc.map entD, target, peer, queue, proc, links, up⟩ = l.set n ⟨kind, data, acc.map entD, target, peer, queue, proc, links, up⟩ := by
            rw [withSB, if_neg (by omega)]; simp
          have g1 := hset ⟨kind, data, acc.map entD, target, peer, queue, proc, links, up⟩ ⟨⟨hsm.t.1, ⟨acc, rfl⟩⟩, hsm.d, by simpa using hacc, hsm.q⟩ rfl
          refine ⟨_, hw, by rw [List.length_set]; have := hg.len; omega, by simpa using hp, fun lk u => ?_⟩
          have := with_goodB g1 (p := p) (by simpa using hp) lk u
          exact ⟨this.1, this.2.trans (by simp)⟩
        refine loop_keep (fun (a : EntSt) => a.k ≤ es.length ∧ a.acc.length = a.k + a.d.toNat) [0, 1, 2, 3, 10, 63, 64] (fun a => [(65, vInt .i64 (a.k : Nat)), (11, vBool a.d)])
          (fun a => match a.acc with
            | [] => [.var [.dat (.val (.int .i64 kind)), .dat (.sl 1 data), .esl, .dat (.val (.string target)), .dat (.val (.int .i64 peer)), .dat (queue), .dat (.val (.int .i64 proc)), .dat (.val (.int .i64 links)), .dat (.val (.int .i64 up))]]
            | x :: r => [.var [.dat (.val (.int .i64 kind)), .dat (.sl 1 data), .row 1 2 0 none, .dat (.val (.string target)), .dat (.val (.int .i64 peer)), .dat (queue), .dat (.val (.int .i64 proc)), .dat (.val (.int .i64 links)), .dat (.val (.int .i64 up))], .row 2 (dRows ((x :: r).map entD))])
          (fun a => es.length - a.k) ⟨0, false, []⟩ ⟨Nat.zero_le _, rfl⟩ ?_ (fun a ha => ?_)
        · refine View.of 1 [0] [] rfl rfl rfl rfl rfl rfl ?_ ?_
          · repeat (first | exact .nil | refine .junk ?_ | refine .eq rfl ?_)
          · exact .put (notF rfl) rfl (.eq rfl (by simp)) (.nil _)
        obtain ⟨k, d, acc⟩ := a
        obtain ⟨hJ1, hJ2⟩ := ha
        have hJ1 : k ≤ es.length := hJ1
        have hJ2 : acc.length = k + d.toNat := hJ2
        have hd1 : d.toNat ≤ 1 := by cases d <;> simp
        cases acc with
        | nil =>
          refine bB_dec (fun h => ?_) (fun h => ?_)
          · have hlt : k < es.length := by
              have h : (k : Int) < ((es.map entD).length : Int) := h
              rw [List.length_map] at h
              omega
            refine ok_some (ent_get hlt) ?_
            cases d with
            | true =>
              simp at hJ2
            | false =>
              refine bB_split (fun _ => ?_) (fun _ => ?_)
              · refine ⟨by simp [subL, dRows] <;> omega, ?_⟩
                refine ⟨by simp [subL, dRows] <;> omega, ?_⟩
                refine ⟨⟨k + 1, true, ([(name, (p : Int)), es[k]])⟩, ⟨hlt, by simp at hJ2 ⊢; omega⟩, (show es.length - (k + 1) < es.length - k by omega), View.of 6 [0, 5] [] rfl rfl rfl rfl rfl rfl ?_ ?_⟩
                · repeat (first | exact .nil | refine .junk ?_ | refine .put (.ren (next_i64 (by omega)).symm) ?_ | refine .eq rfl ?_)
                · exact .put (notF rfl) rfl (.eq rfl (by simp)) (.put (notF rfl) rfl (.rowDE (by simp [subL, dRows, entD])) (.nil _))
              · refine ⟨by simp [subL, dRows] <;> omega, ?_⟩
                refine ⟨⟨k + 1, false, ([es[k]])⟩, ⟨hlt, by simp at hJ2 ⊢; omega⟩, (show es.length - (k + 1) < es.length - k by omega), View.of 4 [0, 3] [] rfl rfl rfl rfl rfl rfl ?_ ?_⟩
                · repeat (first | exact .nil | refine .junk ?_ | refine .put (.ren (next_i64 (by omega)).symm) ?_ | refine .eq rfl ?_)
                · exact .put (notF rfl) rfl (.eq rfl (by simp)) (.put (notF rfl) rfl (.rowDE (by simp [subL, dRows, entD])) (.nil _))
          · have hke : k = es.length := by
              have h : ¬ (k : Int) < ((es.map entD).length : Int) := h
              rw [List.length_map] at h
              omega
            cases d with
            | true => simp at hJ2
            | false =>
              refine ⟨by simp [subL, dRows] <;> omega, ?_⟩
              obtain ⟨l1, hw, hl1, hp1, fin1⟩ := after ([(name, (p : Int))]) (by simp at hJ2 ⊢ <;> omega)
              refine acall_pre (args' := [obsV l, vInt .i64 (n : Nat), (Ob.mk kind data (([(name, (p : Int))]).map entD) target peer queue proc links up).cv]) (m' := [.dead, .dead, .dead]) (View.of 3 [0, 1, 2] [2] rfl rfl rfl rfl rfl rfl
                (.eq rfl (.eq rfl (.put (CcsVw.agg (.cons (.ren (.dat _)) (.cons (.ren (.dat _)) (.cons (.frz (frzE (Z := fun k => memN [2] k = true) rfl rfl (by simp [subL, dRows, entD]))) (.cons (.ren (.dat _)) (.cons (.ren (.dat _)) (.cons (.ren (.dat _)) (.cons (.ren (.dat _)) (.cons (.ren (.dat _)) (.cons (.ren (.dat _)) .nil)))))))))) .nil)))
                (.dead (.dead (.dead (.nil _))))) ?_
              refine with_okB l (by have := hg.len; omega) n (by omega) _ ?_
              rw [hw]
              refine ok_some (obj_getB hp1) ?_
              refine bB_beq (fun h => ?_) (fun h => ?_)
              · refine with_okB l1 hl1 p (by omega) { l1[p] with links := IntKind.i64.wrap (l1[p].links + 1), up := n } ?_
                exact ⟨_, 0, fun _ => fin1 _ _, frz2 (FrzR.self rfl)⟩
              · refine with_okB l1 hl1 p (by omega) { l1[p] with links := IntKind.i64.wrap (l1[p].links + 1) } ?_
                exact ⟨_, 0, fun _ => fin1 _ _, frz2 (FrzR.self rfl)⟩
        | cons x r =>
          have hr : r.length ≤ 9 := by simp at hJ2; omega
          refine bB_dec (fun h => ?_) (fun h => ?_)
          · have hlt : k < es.length := by
              have h : (k : Int) < ((es.map entD).length : Int) := h
              rw [List.length_map] at h
              omega
            refine ok_some (ent_get hlt) ?_
            cases d with
            | true =>
              refine ⟨by simp [subL, dRows] <;> omega, ?_⟩
              refine ⟨⟨k + 1, true, ((x :: r) ++ [es[k]])⟩, ⟨hlt, by simp at hJ2 ⊢; omega⟩, (show es.length - (k + 1) < es.length - k by omega), View.of 5 [0, 4] [] rfl rfl rfl rfl rfl rfl ?_ ?_⟩
              · repeat (first | exact .nil | refine .junk ?_ | refine .put (.ren (next_i64 (by omega)).symm) ?_ | refine .eq rfl ?_)
              · exact .put (notF rfl) rfl (.eq rfl (by simp)) (.put (notF rfl) rfl (.rowDE (by simp [subL, dRows, entD])) (.nil _))
            | false =>
              refine bB_split (fun _ => ?_) (fun _ => ?_)
              · refine ⟨by simp [subL, dRows] <;> omega, ?_⟩
                refine ⟨by simp [subL, dRows] <;> omega, ?_⟩
                refine ⟨⟨k + 1, true, ((x :: r) ++ [(name, (p : Int)), es[k]])⟩, ⟨hlt, by simp at hJ2 ⊢; omega⟩, (show es.length - (k + 1) < es.length - k by omega), View.of 7 [0, 6] [] rfl rfl rfl rfl rfl rfl ?_ ?_⟩
                · repeat (first | exact .nil | refine .junk ?_ | refine .put (.ren (next_i64 (by omega)).symm) ?_ | refine .eq rfl ?_)
                · exact .put (notF rfl) rfl (.eq rfl (by simp)) (.put (notF rfl) rfl (.rowDE (by simp [subL, dRows, entD])) (.nil _))
              · refine ⟨by simp [subL, dRows] <;> omega, ?_⟩
                refine ⟨⟨k + 1, false, ((x :: r) ++ [es[k]])⟩, ⟨hlt, by simp at hJ2 ⊢; omega⟩, (show es.length - (k + 1) < es.length - k by omega), View.of 5 [0, 4] [] rfl rfl rfl rfl rfl rfl ?_ ?_⟩
                · repeat (first | exact .nil | refine .junk ?_ | refine .put (.ren (next_i64 (by omega)).symm) ?_ | refine .eq rfl ?_)
                · exact .put (notF rfl) rfl (.eq rfl (by simp)) (.put (notF rfl) rfl (.rowDE (by simp [subL, dRows, entD])) (.nil _))
          · have hke : k = es.length := by
              have h : ¬ (k : Int) < ((es.map entD).length : Int) := h
              rw [List.length_map] at h
              omega
            cases d with
            | true =>
              obtain ⟨l1, hw, hl1, hp1, fin1⟩ := after ((x :: r)) (by simp at hJ2 ⊢ <;> omega)
              refine acall_pre (args' := [obsV l, vInt .i64 (n : Nat), (Ob.mk kind data (((x :: r)).map entD) target peer queue proc links up).cv]) (m' := [.dead, .dead]) (View.of 2 [0, 1] [1] rfl rfl rfl rfl rfl rfl
                (.eq rfl (.eq rfl (.put (CcsVw.agg (.cons (.ren (.dat _)) (.cons (.ren (.dat _)) (.cons (.frz (frzE (Z := fun k => memN [1] k = true) rfl rfl (by simp [subL, dRows, entD]))) (.cons (.ren (.dat _)) (.cons (.ren (.dat _)) (.cons (.ren (.dat _)) (.cons (.ren (.dat _)) (.cons (.ren (.dat _)) (.cons (.ren (.dat _)) .nil)))))))))) .nil)))
                (.dead (.dead (.nil _)))) ?_
              refine with_okB l (by have := hg.len; omega) n (by omega) _ ?_
              rw [hw]
              refine ok_some (obj_getB hp1) ?_
              refine bB_beq (fun h => ?_) (fun h => ?_)
              · refine with_okB l1 hl1 p (by omega) { l1[p] with links := IntKind.i64.wrap (l1[p].links + 1), up := n } ?_
                exact ⟨_, 0, fun _ => fin1 _ _, frz2 (FrzR.self rfl)⟩
              · refine with_okB l1 hl1 p (by omega) { l1[p] with links := IntKind.i64.wrap (l1[p].links + 1) } ?_
                exact ⟨_, 0, fun _ => fin1 _ _, frz2 (FrzR.self rfl)⟩
            | false =>
              refine ⟨by simp [subL, dRows] <;> omega, ?_⟩
              obtain ⟨l1, hw, hl1, hp1, fin1⟩ := after (((x :: r) ++ [(name, (p : Int))])) (by simp at hJ2 ⊢ <;> omega)
              refine acall_pre (args' := [obsV l, vInt .i64 (n : Nat), (Ob.mk kind data ((((x :: r) ++ [(name, (p : Int))])).map entD) target peer queue proc links up).cv]) (m' := [.dead, .dead, .dead, .dead]) (View.of 4 [0, 1, 2, 3] [3] rfl rfl rfl rfl rfl rfl
                (.eq rfl (.eq rfl (.put (CcsVw.agg (.cons (.ren (.dat _)) (.cons (.ren (.dat _)) (.cons (.frz (frzE (Z := fun k => memN [3] k = true) rfl rfl (by simp [subL, dRows, entD]))) (.cons (.ren (.dat _)) (.cons (.ren (.dat _)) (.cons (.ren (.dat _)) (.cons (.ren (.dat _)) (.cons (.ren (.dat _)) (.cons (.ren (.dat _)) .nil)))))))))) .nil)))
                (.dead (.dead (.dead (.dead (.nil _)))))) ?_
              refine with_okB l (by have := hg.len; omega) n (by omega) _ ?_
              rw [hw]
              refine ok_some (obj_getB hp1) ?_
              refine bB_beq (fun h => ?_) (fun h => ?_)
              · refine with_okB l1 hl1 p (by omega) { l1[p] with links := IntKind.i64.wrap (l1[p].links + 1), up := n } ?_
                exact ⟨_, 0, fun _ => fin1 _ _, frz2 (FrzR.self rfl)⟩
              · refine with_okB l1 hl1 p (by omega) { l1[p] with links := IntKind.i64.wrap (l1[p].links + 1) } ?_
                exact ⟨_, 0, fun _ => fin1 _ _, frz2 (FrzR.self rfl)⟩
    · rw [Bool.not_eq_true] at hI2
      rw [hI2]
      exact ⟨[], 6, fun h => absurd h (by decide), frz2 (.one (.esl 9))⟩
  · rw [Bool.not_eq_true] at hI
    rw [hI]
    exact ⟨[], 6, fun h => absurd h (by decide), frz2 (.one (.esl 9))⟩
set_option maxRecDepth 100000 in
theorem enter_okB (l : List Ob) (hg : GoodN l) (dir : Int) (name : ByteArray) (hs : name.size ≤ 4194304) (obj : Int) {m : Mem} {K : CV → Mem → Prop} (h : ∀ y e, (e = 0 → GoodN y ∧ y.length = l.length) → K (twoVB y e) m) :
    ACall Try.prog 72 [obsV l, vInt .i64 dir, vStr name, vInt .i64 obj] m K := by
  refine acall_frame (K0 := fun r m => ∃ y e, (e = 0 → GoodN y ∧ y.length = l.length) ∧ FrzV m r (twoVB y e)) (acall_body Try.func72 l72 rfl (Nat.le_of_ble_eq_true rfl) (enter_bodyB l hg dir name hs obj)) (by simp [vStr, vInt, obsV, CV.isD, CC.isD, RV.isD]) fun r m1 hr => ?_
  obtain ⟨y, e, hy, hf⟩ := hr
  exact ⟨_, hf, h y e hy⟩
end Go.Proofs.Ytflieebgiejjpaa
