import Derived.Test.YtmekobkcgajcjaaAmZ2
import Derived.Test.YtmekobkcgajcjaaDvGi
import Derived.Test.YtmekobkcgajcjaaAmY
import Derived.Test.YtmekobkcgajcjaaDvGj
set_option linter.unusedVariables false
set_option linter.unusedSimpArgs false
namespace Go.Proofs.Ytmekobkcgajcjaa
open Go.AM Go.ChangeShapes Go.WideShapes Go.ChangeAt Go.RowKit
def c19 : LF := ⟨45, [.tmp 6, .tmp 7], (.seq (.reg [
    ⟨(some 3), .box (.t 0), none⟩,
    ⟨(some 6), .mov (.c (.rv (.one .esl))), none⟩,
    ⟨(some 7), .mov (.c (.rv (.one (.dat (.val (.int .i64 (0))))))), none⟩]) (.seq (.seq (.reg [
    ⟨(some 10), .fadr 0 (.t 3), none⟩,
    ⟨(some 11), .load false 1 (.t 10), none⟩,
    ⟨(some 12), .bin .eql (.t 11) (.c (.rv (.one (.dat (.val (.int .i64 (2))))))), none⟩]) (.cond (.t 12) (.seq (.reg [
    ⟨(some 6), .mov (.c (.rv (.one .esl))), none⟩,
    ⟨(some 7), .mov (.c (.rv (.one (.dat (.val (.int .i64 (12))))))), none⟩]) .ret) .skip)) (.seq (.seq (.reg [
    ⟨(some 13), .fadr 0 (.t 3), none⟩,
    ⟨(some 14), .load false 1 (.t 13), none⟩,
    ⟨(some 15), .bin .neq (.t 14) (.c (.rv (.one (.dat (.val (.int .i64 (1))))))), none⟩]) (.cond (.t 15) (.seq (.reg [
    ⟨(some 6), .mov (.c (.rv (.one .esl))), none⟩,
    ⟨(some 7), .mov (.c (.rv (.one (.dat (.val (.int .i64 (8))))))), none⟩]) .ret) .skip)) (.seq (.seq (.reg [
    ⟨(some 16), .mov (.t 1), none⟩,
    ⟨(some 17), .bin .lss (.t 16) (.c (.rv (.one (.dat (.val (.int .i64 (0))))))), none⟩,
    ⟨(some 18), .mov (.t 17), none⟩,
    ⟨(some 19), .mov (.t 2), (some (18, false))⟩,
    ⟨(some 20), .bin .lss (.t 19) (.c (.rv (.one (.dat (.val (.int .i64 (0))))))), (some (18, false))⟩,
    ⟨(some 21), .pick (.t 18) (.c (.rv (.one (.dat (.val (.bool true)))))) (.t 20), none⟩]) (.cond (.t 21) (.seq (.reg [
    ⟨(some 6), .mov (.c (.rv (.one .esl))), none⟩,
    ⟨(some 7), .mov (.c (.rv (.one (.dat (.val (.int .i64 (3))))))), none⟩]) .ret) .skip)) (.seq (.reg [
    ⟨(some 8), .mov (.c (.rv (.one .esl))), none⟩]) (.seq (.seq (.reg [
    ⟨(some 22), .mov (.t 1), none⟩,
    ⟨(some 9), .mov (.t 22), none⟩]) (.block 0 (.loop (.seq (.seq (.reg [
    ⟨(some 23), .mov (.t 9), none⟩,
    ⟨(some 24), .fadr 1 (.t 3), none⟩,
    ⟨(some 25), .load false 1 (.t 24), none⟩,
    ⟨(some 26), .len 1 (.t 25), none⟩,
    ⟨(some 27), .bin .lss (.t 23) (.t 26), none⟩,
    ⟨(some 28), .mov (.t 27), none⟩,
    ⟨(some 29), .mov (.t 8), (some (28, true))⟩,
    ⟨(some 30), .len 1 (.t 29), (some (28, true))⟩,
    ⟨(some 31), .mov (.t 2), (some (28, true))⟩,
    ⟨(some 32), .bin .lss (.t 30) (.t 31), (some (28, true))⟩,
    ⟨(some 33), .pick (.t 28) (.t 32) (.c (.rv (.one (.dat (.val (.bool false)))))), none⟩]) (.cond (.t 33) .skip (.exit 0))) (.seq (.block 1 (.reg [
    ⟨(some 36), .mov (.t 8), none⟩,
    ⟨(some 37), .fadr 1 (.t 3), none⟩,
    ⟨(some 38), .load false 1 (.t 37), none⟩,
    ⟨(some 39), .mov (.t 9), none⟩,
    ⟨(some 40), .idx 1 (.t 38) (.t 39), none⟩,
    ⟨(some 41), .load false 1 (.t 40), none⟩,
    ⟨(some 42), .bsl 1 [(.dat (.val (.int .u8 (0))))] 1 [(0, (.t 41))], none⟩,
    ⟨(some 43), .app 1 1 (.t 36) (.t 42), none⟩,
    ⟨(some 8), .mov (.t 43), none⟩])) (.reg [
    ⟨(some 34), .mov (.t 9), none⟩,
    ⟨(some 35), .bin .add (.t 34) (.c (.rv (.one (.dat (.val (.int .i64 (1))))))), none⟩,
    ⟨(some 9), .mov (.t 35), none⟩])))))) (.seq (.reg [
    ⟨(some 44), .mov (.t 8), none⟩,
    ⟨(some 6), .mov (.t 44), none⟩,
    ⟨(some 7), .mov (.c (.rv (.one (.dat (.val (.int .i64 (0))))))), none⟩]) .ret)))))))⟩
def c21 : LF := ⟨62, [.cell true 9 6, .tmp 7], (.seq (.reg [
    ⟨(some 3), .box (.t 0), none⟩,
    ⟨(some 6), .alloc [(.dat (.val (.int .i64 (0)))), .esl, .esl, (.dat (.val (.string ⟨#[]⟩))), (.dat (.val (.int .i64 (0)))), .esl, (.dat (.val (.int .i64 (0)))), (.dat (.val (.int .i64 (0)))), (.dat (.val (.int .i64 (0))))], none⟩,
    ⟨(some 7), .mov (.c (.rv (.one (.dat (.val (.int .i64 (0))))))), none⟩]) (.seq (.seq (.reg [
    ⟨(some 10), .fadr 0 (.t 3), none⟩,
    ⟨(some 11), .load false 1 (.t 10), none⟩,
    ⟨(some 12), .bin .eql (.t 11) (.c (.rv (.one (.dat (.val (.int .i64 (2))))))), none⟩]) (.cond (.t 12) (.seq (.reg [
    ⟨(some 13), .build [(.dat (.val (.int .i64 (0)))), .esl, .esl, (.dat (.val (.string ⟨#[]⟩))), (.dat (.val (.int .i64 (0)))), .esl, (.dat (.val (.int .i64 (0)))), (.dat (.val (.int .i64 (0)))), (.dat (.val (.int .i64 (0))))] [], none⟩,
    ⟨none, .store 9 (.t 6) (.t 13), none⟩,
    ⟨(some 7), .mov (.c (.rv (.one (.dat (.val (.int .i64 (12))))))), none⟩]) .ret) .skip)) (.seq (.seq (.reg [
    ⟨(some 14), .fadr 0 (.t 3), none⟩,
    ⟨(some 15), .load false 1 (.t 14), none⟩,
    ⟨(some 16), .bin .neq (.t 15) (.c (.rv (.one (.dat (.val (.int .i64 (1))))))), none⟩]) (.cond (.t 16) (.seq (.reg [
    ⟨(some 17), .build [(.dat (.val (.int .i64 (0)))), .esl, .esl, (.dat (.val (.string ⟨#[]⟩))), (.dat (.val (.int .i64 (0)))), .esl, (.dat (.val (.int .i64 (0)))), (.dat (.val (.int .i64 (0)))), (.dat (.val (.int .i64 (0))))] [], none⟩,
    ⟨none, .store 9 (.t 6) (.t 17), none⟩,
    ⟨(some 7), .mov (.c (.rv (.one (.dat (.val (.int .i64 (8))))))), none⟩]) .ret) .skip)) (.seq (.seq (.reg [
    ⟨(some 18), .mov (.t 1), none⟩,
    ⟨(some 19), .bin .lss (.t 18) (.c (.rv (.one (.dat (.val (.int .i64 (0))))))), none⟩]) (.cond (.t 19) (.seq (.reg [
    ⟨(some 20), .build [(.dat (.val (.int .i64 (0)))), .esl, .esl, (.dat (.val (.string ⟨#[]⟩))), (.dat (.val (.int .i64 (0)))), .esl, (.dat (.val (.int .i64 (0)))), (.dat (.val (.int .i64 (0)))), (.dat (.val (.int .i64 (0))))] [], none⟩,
    ⟨none, .store 9 (.t 6) (.t 20), none⟩,
    ⟨(some 7), .mov (.c (.rv (.one (.dat (.val (.int .i64 (3))))))), none⟩]) .ret) .skip)) (.seq (.seq (.reg [
    ⟨(some 21), .mov (.t 1), none⟩,
    ⟨(some 22), .bin .gtr (.t 21) (.c (.rv (.one (.dat (.val (.int .i64 (60))))))), none⟩,
    ⟨(some 23), .mov (.t 22), none⟩,
    ⟨(some 24), .mov (.t 2), (some (23, false))⟩,
    ⟨(some 25), .len 1 (.t 24), (some (23, false))⟩,
    ⟨(some 26), .mov (.t 1), (some (23, false))⟩,
    ⟨(some 27), .bin .sub (.c (.rv (.one (.dat (.val (.int .i64 (60))))))) (.t 26), (some (23, false))⟩,
    ⟨(some 28), .bin .gtr (.t 25) (.t 27), (some (23, false))⟩,
    ⟨(some 29), .pick (.t 23) (.c (.rv (.one (.dat (.val (.bool true)))))) (.t 28), none⟩]) (.cond (.t 29) (.seq (.reg [
    ⟨(some 30), .build [(.dat (.val (.int .i64 (0)))), .esl, .esl, (.dat (.val (.string ⟨#[]⟩))), (.dat (.val (.int .i64 (0)))), .esl, (.dat (.val (.int .i64 (0)))), (.dat (.val (.int .i64 (0)))), (.dat (.val (.int .i64 (0))))] [], none⟩,
    ⟨none, .store 9 (.t 6) (.t 30), none⟩,
    ⟨(some 7), .mov (.c (.rv (.one (.dat (.val (.int .i64 (15))))))), none⟩]) .ret) .skip)) (.seq (.seq (.reg [
    ⟨(some 31), .mov (.t 2), none⟩,
    ⟨(some 32), .len 1 (.t 31), none⟩,
    ⟨(some 33), .bin .eql (.t 32) (.c (.rv (.one (.dat (.val (.int .i64 (0))))))), none⟩]) (.cond (.t 33) (.seq (.reg [
    ⟨(some 34), .load true 9 (.t 3), none⟩,
    ⟨none, .store 9 (.t 6) (.t 34), none⟩,
    ⟨(some 7), .mov (.c (.rv (.one (.dat (.val (.int .i64 (0))))))), none⟩]) .ret) .skip)) (.seq (.reg [
    ⟨(some 35), .fadr 1 (.t 3), none⟩,
    ⟨(some 36), .load false 1 (.t 35), none⟩,
    ⟨(some 37), .len 1 (.t 36), none⟩,
    ⟨(some 8), .mov (.t 37), none⟩]) (.seq (.seq (.reg [
    ⟨(some 38), .mov (.t 1), none⟩,
    ⟨(some 39), .mov (.t 2), none⟩,
    ⟨(some 40), .len 1 (.t 39), none⟩,
    ⟨(some 41), .bin .add (.t 38) (.t 40), none⟩,
    ⟨(some 42), .mov (.t 8), none⟩,
    ⟨(some 43), .bin .gtr (.t 41) (.t 42), none⟩]) (.cond (.t 43) (.reg [
    ⟨(some 44), .mov (.t 1), none⟩,
    ⟨(some 45), .mov (.t 2), none⟩,
    ⟨(some 46), .len 1 (.t 45), none⟩,
    ⟨(some 47), .bin .add (.t 44) (.t 46), none⟩,
    ⟨(some 8), .mov (.t 47), none⟩]) .skip)) (.ghost (.seq (.reg [
    ⟨(some 48), .mov (.t 8), none⟩,
    ⟨(some 49), .mkslice 1 1 [(.dat (.val (.int .u8 (0))))] (.t 48) (.t 48), none⟩,
    ⟨(some 9), .mov (.t 49), none⟩]) (.seq (.reg [
    ⟨(some 50), .mov (.t 9), none⟩,
    ⟨(some 51), .fadr 1 (.t 3), none⟩,
    ⟨(some 52), .load false 1 (.t 51), none⟩,
    ⟨(some 53), .copy 1 (.t 50) (.t 52), none⟩]) (.seq (.reg [
    ⟨(some 54), .mov (.t 9), none⟩,
    ⟨(some 55), .mov (.t 1), none⟩,
    ⟨(some 56), .slc 1 (.t 54) (some (.t 55)) none none, none⟩,
    ⟨(some 57), .mov (.t 2), none⟩,
    ⟨(some 58), .copy 1 (.t 56) (.t 57), none⟩]) (.seq (.reg [
    ⟨(some 59), .mov (.t 9), none⟩,
    ⟨(some 60), .fadr 1 (.t 3), none⟩,
    ⟨none, .store 1 (.t 60) (.t 59), none⟩]) (.seq (.reg [
    ⟨(some 61), .load true 9 (.t 3), none⟩,
    ⟨none, .store 9 (.t 6) (.t 61), none⟩,
    ⟨(some 7), .mov (.c (.rv (.one (.dat (.val (.int .i64 (0))))))), none⟩]) .ret))))))))))))))⟩
/-! StoreTells: the document's Find (any directory), Read and Write: exactly; store.Find of any directory -/
theorem l19 : lowF Try.prog Try.f19 = some c19 := by kernel_rfl
theorem l21 : lowF Try.prog Try.f21 = some c21.er := by kernel_rfl
def rFindS (l : List Obj) (dir : Int) (name : ByteArray) : Int := if isSO l dir 2 = true then (match l[dir.toNat]? with | none => -1 | some o => findS (o.entries.map unE) name) else -1
theorem isS_eq (l : List Obj) (k kind : Int) : isS l k kind = isSO l k kind := by
  unfold isSO isS isSB
  rw [List.length_map, List.getElem?_map]
  cases l[k.toNat]? <;> rfl
theorem isSO_yes2 {l : List Obj} {k c : Int} (hc : c ≠ 0) (h : isSO l k c = true) : ∃ n : Nat, k = n ∧ ∃ hn : n < l.length, l[n].kind = c := by
  obtain ⟨n, e, hn, hk⟩ := is4_yesB hc h
  have hn' : n < l.length := by simpa using hn
  refine ⟨n, e, hn', ?_⟩
  rw [List.getElem_map] at hk
  exact hk
theorem isSO_yes0 {l : List Obj} {k : Int} (h : isSO l k 0 = true) : ∃ n : Nat, k = n ∧ n < l.length := by
  obtain ⟨n, e, hn⟩ := is0_yesB h
  exact ⟨n, e, by simpa using hn⟩
theorem isSO_mk2 {l : List Obj} {n : Nat} (hn : n < l.length) (hk : l[n].kind = 2) : isSO l n 2 = true := by
  unfold isSO isSB
  rw [Int.toNat_natCast, List.getElem?_map, List.getElem?_eq_getElem hn, List.length_map]
  have : l[n].ob.kind = 2 := hk
  simp [hn, this]
theorem rFindS_at {l : List Obj} {n : Nat} (hn : n < l.length) (hk : l[n].kind = 2) (name : ByteArray) : rFindS l n name = findS (l[n].entries.map unE) name := by
  unfold rFindS
  rw [if_pos (isSO_mk2 hn hk), Int.toNat_natCast, List.getElem?_eq_getElem hn]
set_option maxRecDepth 100000 in
set_option maxHeartbeats 8000000 in
theorem rfindX_body (l : List Obj) (hs : SrtL l) (dir : Int) (name : ByteArray) : body Try.prog c11 [objsV l, vInt .i64 dir, vStr name] [] (fun r m => r = vInt .i64 (rFindS l dir name)) := by
  refine is_ok l dir 2 ?_
  rw [isS_eq]
  by_cases hI : isSO l dir 2 = true
  · rw [hI]
    obtain ⟨n, rfl, hn, hk⟩ := isSO_yes2 (by decide) hI
    rw [rFindS_at hn hk]
    refine ok_some (obj_getO hn) ?_
    obtain ⟨es, he, hsrt, hlen, _⟩ := hs.en _ (List.getElem_mem hn)
    have hu : ∀ f, FindOK es name f → f = findS (l[n].entries.map unE) name := fun f h => by
      rw [he, unE_map]
      exact findOK_uniq hsrt h (findS_OK _ _)
    generalize findS (l[n].entries.map unE) name = F at hu
    generalize l[n] = o at he
    obtain ⟨kind, data, entries, target, peer, queue, proc, links, up⟩ := o
    have he : entries = es.map entD := he
    subst he
    refine loop_keep (fun k => k ≤ es.length ∧ ∀ (j : Nat) e, j < k → es[j]? = some e → e.1.toList ≠ name.toList) [2, 17, 18] (fun k => [(19, vInt .i64 (k : Nat))]) (fun _ => []) (fun k => es.length - k) 0 ⟨Nat.zero_le _, fun j e h => absurd h (Nat.not_lt_zero j)⟩ ?_ (fun k hk => ?_)
    · refine View.of 0 [] [] rfl rfl rfl rfl rfl rfl ?_ (.nil _)
      repeat (first | exact .nil | refine .junk ?_ | refine .eq rfl ?_)
    obtain ⟨hk, hkb⟩ := hk
    have hk : k ≤ es.length := hk
    refine bB_dec (fun h => ?_) (fun h => ?_)
    · have hlt : k < es.length := by
        have h : (k : Int) < ((es.map entD).length : Int) := h
        rw [List.length_map] at h
        omega
      refine ok_some (ent_get hlt) ?_
      refine bB_split (fun heq => ?_) (fun heq => ?_)
      · show vInt _ _ = vInt _ _
        rw [hu _ (.inl ⟨es[k], List.getElem_mem hlt, by simpa using heq, rfl⟩)]
      · refine ⟨k + 1, ⟨hlt, fun j e hj he => ?_⟩, (show es.length - (k + 1) < es.length - k by omega), View.of 1 [] [] rfl rfl rfl rfl rfl rfl ?_ (.nil _)⟩
        · rcases Nat.lt_or_ge j k with h3 | h3
          · exact hkb j e h3 he
          · have : j = k := by omega
            subst this
            rw [List.getElem?_eq_getElem hlt] at he
            cases he
            simpa using heq
        repeat (first | exact .nil | refine .junk ?_ | refine .put (.ren (next_i64 (by omega)).symm) ?_ | refine .eq rfl ?_)
    · have hge : ¬ k < es.length := by
        have h : ¬ (k : Int) < ((es.map entD).length : Int) := h
        rw [List.length_map] at h
        omega
      show vInt _ _ = vInt _ _
      rw [← hu (-1) (.inr ⟨rfl, fun e he => ?_⟩)]
      obtain ⟨j, hj⟩ := List.getElem?_of_mem he
      exact hkb j e (by have := (List.getElem?_eq_some_iff.1 hj).1; omega) hj
  · rw [Bool.not_eq_true] at hI
    rw [hI]
    show vInt _ _ = vInt _ _
    rw [rFindS, if_neg (by rw [hI]; simp)]
set_option maxRecDepth 100000 in
theorem rfindX_ok (l : List Obj) (hs : SrtL l) (dir : Int) (name : ByteArray) {m : Mem} {K : CV → Mem → Prop} (h : K (vInt .i64 (rFindS l dir name)) m) : ACall Try.prog 11 [objsV l, vInt .i64 dir, vStr name] m K :=
  acall_val Try.func11 l11 rfl (Nat.le_of_ble_eq_true rfl) (rfindX_body l hs dir name) rfl rfl h
set_option maxRecDepth 100000 in
set_option maxHeartbeats 8000000 in
theorem sfindN_body (l : List Obj) (dir : Int) (name : ByteArray) (hI : isSO l dir 2 = false) : body Try.prog c10 [objsV l, vInt .i64 dir, vStr name] [] (fun r m => r = vInt .i64 (-1)) := by
  refine bB_dec (fun h1 => ?_) (fun h1 => ?_)
  · exact rfl
  obtain ⟨n, rfl⟩ : ∃ n : Nat, dir = n := ⟨dir.toNat, by have h1 : ¬ dir < 0 := h1; omega⟩
  refine bB_dec (fun h2 => ?_) (fun h2 => ?_)
  · exact rfl
  have h2 : ¬ (n : Int) ≥ ((l.map Obj.enc).length : Int) := h2
  rw [List.length_map] at h2
  have hn : n < l.length := by omega
  refine ok_some (obj_getO hn) ?_
  refine bB_yes ?_ ?_
  · show (l[n].kind != 2) = true
    by_cases hk : l[n].kind = 2
    · rw [isSO_mk2 hn hk] at hI
      cases hI
    · simp [hk]
  · exact rfl
set_option maxRecDepth 100000 in
theorem sfindX_ok (l : List Obj) (hs : SrtL l) (dir : Int) (name : ByteArray) {m : Mem} {K : CV → Mem → Prop} (h : K (vInt .i64 (rFindS l dir name)) m) : ACall Try.prog 10 [objsV l, vInt .i64 dir, vStr name] m K := by
  by_cases hI : isSO l dir 2 = true
  · obtain ⟨n, rfl, hn, hk⟩ := isSO_yes2 (by decide) hI
    obtain ⟨es, he, hsrt, hlen, _⟩ := hs.en _ (List.getElem_mem hn)
    refine sfind_ok l n hn hk es he (by omega) name ?_
    rw [rFindS_at hn hk, he, unE_map] at h
    rw [show findW l es n name = findS es name from find_uniq hsrt name]
    exact h
  · rw [Bool.not_eq_true] at hI
    rw [rFindS, if_neg (by rw [hI]; simp)] at h
    exact acall_val Try.func10 l10 rfl (Nat.le_of_ble_eq_true rfl) (sfindN_body l dir name hI) rfl rfl h
/-! Read -/
theorem cutD_eq (d : List (List Dt)) (A N : Nat) : cutD d A N = (d.drop A).take N := by
  unfold cutD minN
  rw [List.drop_take]
  by_cases h : d.length < A
  · rw [if_pos h]
    rw [List.drop_eq_nil_of_le (Nat.le_refl d.length), List.drop_eq_nil_of_le (show d.length ≤ A by omega)]
    simp
  · rw [if_neg h]
    by_cases h2 : d.length - A < N
    · rw [if_pos h2]
      rw [List.take_of_length_le (show (d.drop A).length ≤ N by rw [List.length_drop]; omega), List.take_of_length_le (by rw [List.length_drop]; omega)]
    · rw [if_neg h2]
      congr 1
      omega
theorem byD_getS {b : List Int} {i : Nat} (h : i < b.length) : getZ (byD b) (i : Nat) = some [.val (.int .u8 b[i])] := by
  rw [getZ_nat]
  unfold byD
  rw [List.getElem?_map, List.getElem?_eq_getElem h]
  rfl
set_option maxRecDepth 100000 in
set_option maxHeartbeats 8000000 in
theorem rread_body (o : Obj) (b : List Int) (hb : o.data = byD b) (hf : o.data.length ≤ 4194304) (at' n : Int) : body Try.prog c19 [o.cv, vInt .i64 at', vInt .i64 n] [] (fun r m => FrzV m r (.tup [byR (readS o.kind o.data at' n).1, iRV (readS o.kind o.data at' n).2])) := by
  obtain ⟨kind, data, entries, target, peer, queue, proc, links, up⟩ := o
  have hb : data = byD b := hb
  subst hb
  have hf : (byD b).length ≤ 4194304 := hf
  have hbl : (byD b).length = b.length := by simp [byD]
  rw [hbl] at hf
  show body Try.prog c19 _ [] (fun r m => FrzV m r (.tup [byR (readS kind (byD b) at' n).1, iRV (readS kind (byD b) at' n).2]))
  refine bB_beq (fun h1 => ?_) (fun h1 => ?_)
  · rw [readS, if_pos h1]
    exact frz2 (.one (.esl 1))
  refine bB_bne (fun h2 => ?_) (fun h2 => ?_)
  · rw [readS, if_neg h1, if_pos h2]
    exact frz2 (.one (.esl 1))
  have hk : kind = 1 := by simpa using h2
  refine bB_dec (fun h3 => ?_) (fun h3 => ?_)
  · rw [readS, if_neg h1, if_neg (by simpa using hk), if_pos (.inl h3)]
    exact frz2 (.one (.esl 1))
  refine bB_dec (fun h4 => ?_) (fun h4 => ?_)
  · rw [readS, if_neg h1, if_neg (by simpa using hk), if_pos (.inr h4)]
    exact frz2 (.one (.esl 1))
  rw [readS, if_neg h1, if_neg (by simpa using hk), if_neg (fun h => h.elim h3 h4)]
  have h3 : ¬ at' < 0 := h3
  have h4 : ¬ n < 0 := h4
  obtain ⟨A, rfl⟩ : ∃ A : Nat, at' = A := ⟨at'.toNat, by omega⟩
  obtain ⟨N, rfl⟩ : ∃ N : Nat, n = N := ⟨n.toNat, by omega⟩
  rw [show ((A : Nat) : Int).toNat = A from rfl, show ((N : Nat) : Int).toNat = N from rfl, cutD_eq]
  refine loop_keep (fun j => j ≤ N ∧ j ≤ b.length - A) [2] (fun j => [(3, .rv (.one (.ptr 0 0))), (8, .rv (.one (.row 1 1 0 none))), (9, vInt .i64 ((A + j : Nat) : Int))]) (fun j => [.var ((Obj.mk kind (byD b) entries target peer queue proc links up).enc.map .dat), .row 1 (dRows (((byD b).drop A).take j))]) (fun j => N - j) 0 ⟨Nat.zero_le _, Nat.zero_le _⟩ ?_ (fun j hj => ?_)
  · refine View.trans (View.esl 8 1 1 rfl rfl rfl) (View.of 2 [0, 1] [] rfl rfl rfl rfl rfl rfl ?_ ?_)
    · repeat (first | exact .nil | refine .junk ?_ | refine .eq rfl ?_)
    · exact .put (notF rfl) rfl (.eq rfl (by simp [Obj.enc, CC.ren])) (.put (notF rfl) rfl (.rowDE rfl) (.nil _))
  obtain ⟨hj1, hj2⟩ := hj
  have hj1 : j ≤ N := hj1
  have hj2 : j ≤ b.length - A := hj2
  have hlen : (dRows (((byD b).drop A).take j)).length = j := by
    rw [dRows_length, List.length_take, List.length_drop, hbl]; omega
  have fin : (j = N ∨ j = b.length - A) → ((byD b).drop A).take j = ((byD b).drop A).take N := fun h => by
    rcases h with h | h
    · rw [h]
    · by_cases h5 : j = N
      · rw [h5]
      · rw [List.take_of_length_le (by rw [List.length_drop, hbl]; omega), List.take_of_length_le (by rw [List.length_drop, hbl]; omega)]
  refine bB_dec (fun h => ?_) (fun h => ?_)
  · have hlt : A + j < b.length := by
      have h : ((A + j : Nat) : Int) < ((byD b).length : Int) := h
      rw [hbl] at h
      omega
    refine bB_dec (fun h6 => ?_) (fun h6 => ?_)
    · have h6 : ((lenOf (dRows (((byD b).drop A).take j)).length 0 none : Nat) : Int) < (N : Int) := h6
      have h6 : j < N := by
        have e : lenOf (dRows (((byD b).drop A).take j)).length 0 none = j := hlen
        rw [e] at h6
        omega
      refine ok_some (byD_getS hlt) ?_
      refine ⟨by simp only [subL, hlen, List.length_cons, List.length_nil]; omega, ?_⟩
      refine ⟨j + 1, ⟨h6, (show j + 1 ≤ b.length - A by omega)⟩, (show N - (j + 1) < N - j by omega), View.of 4 [0, 3] [] rfl rfl rfl rfl rfl rfl ?_ ?_⟩
      · repeat (first | exact .nil | refine .junk ?_ | refine .put (.ren (by rw [← Nat.add_assoc]; exact (next_i64 (by omega)).symm)) ?_ | refine .eq rfl ?_)
      · refine .put (notF rfl) rfl (.eq rfl (by simp [Obj.enc, CC.ren])) (.put (notF rfl) rfl (.rowDE ?_) (.nil _))
        have e : ((byD b).drop A)[j]? = some [.val (.int .u8 b[A + j])] := by
          rw [List.getElem?_drop]
          unfold byD
          rw [List.getElem?_map, List.getElem?_eq_getElem hlt]
          rfl
        rw [takeO e, dRows_append]
        rfl
    · have h6 : ¬ ((lenOf (dRows (((byD b).drop A).take j)).length 0 none : Nat) : Int) < (N : Int) := h6
      have e : lenOf (dRows (((byD b).drop A).take j)).length 0 none = j := hlen
      rw [e] at h6
      rw [← fin (.inl (by omega))]
      exact frz2 (.one (FrzC.rowD rfl 0 none))
  · have h : ¬ ((A + j : Nat) : Int) < ((byD b).length : Int) := h
    rw [hbl] at h
    rw [← fin (.inr (by omega))]
    exact frz2 (.one (FrzC.rowD rfl 0 none))
set_option maxRecDepth 100000 in
theorem rread_ok (o : Obj) (b : List Int) (hb : o.data = byD b) (hf : o.data.length ≤ 4194304) (at' n : Int) {m : Mem} {K : CV → Mem → Prop} (h : K (.tup [byR (readS o.kind o.data at' n).1, iRV (readS o.kind o.data at' n).2]) m) : ACall Try.prog 19 [o.cv, vInt .i64 at', vInt .i64 n] m K :=
  acall_frame (acall_body Try.func19 l19 rfl (Nat.le_of_ble_eq_true rfl) (rread_body o b hb hf at' n)) (by simp [Obj.cv, Obj.enc, vInt, CV.isD, CC.isD, RV.isD]) fun r m1 hf => ⟨_, hf, h⟩
/-! Write -/
def D21 : LC := sndW (sndW (sndW (sndW (sndW (sndW (sndW (sndW c21.code)))))))
def G21 : LC := unW D21
theorem repl_rows (N : Nat) : repl N [CC.dat (.val (.int .u8 0))] = dRows (List.replicate N zb) := by
  rw [repl_eq]
  simp [dRows, zb]
theorem splice_nil {α : Type} (l : List α) (A : Nat) : splice l A [] = l := by simp [splice]
theorem wfin (d b : List (List Dt)) (A N : Nat) (hN : N = if A + b.length > d.length then A + b.length else d.length) (hb : b.length ≠ 0) :
    splice (splice (List.replicate N zb) 0 d) A b = wdata d A b := by
  unfold wdata
  rw [if_neg hb, wpad]
  congr 1
  unfold splice
  rw [List.take_zero, List.nil_append, List.drop_replicate, Nat.zero_add]
  congr 2
  rw [hN]
  split <;> omega
set_option maxRecDepth 100000 in
set_option maxHeartbeats 16000000 in
theorem seg21 (o : Obj) (hf : o.data.length ≤ 4194304) (b : List (List Dt)) (A N : Nat) (hN : N = if A + b.length > o.data.length then A + b.length else o.data.length) (hA : A ≤ 60) (hbl : b.length ≤ 60) (hb : b.length ≠ 0) :
    aw Try.prog 0 G21 (endK Try.prog c21.res (fun r m => FrzV m r (.tup [objR { o with data := wdata o.data A b }, iRV 0])))
      ⟨mkE 62 [(1, vInt .i64 (A : Nat)), (2, slV 1 b), (3, .rv (.one (.ptr 0 0))), (6, .rv (.one (.ptr 1 0))), (8, vInt .i64 (N : Nat))], [.var (o.enc.map .dat), .var zero9]⟩ := by
  have hNA : A + b.length ≤ N ∧ o.data.length ≤ N ∧ N ≤ 4194304 := by rw [hN]; split <;> omega
  obtain ⟨kind, data, entries, target, peer, queue, proc, links, up⟩ := o
  have hw := wfin data b A N hN hb
  have hNA : A + b.length ≤ N ∧ data.length ≤ N ∧ N ≤ 4194304 := hNA
  refine bB_yes (by exact Nat.beq_refl N) ?_
  refine ⟨by omega, ?_⟩
  have hrl : (repl N [CC.dat (.val (.int .u8 0))]).length = N := by rw [repl_eq]; simp
  by_cases hd : data.length = 0
  · have hd0 : data = [] := List.length_eq_zero_iff.1 hd
    subst hd0
    refine bB_yes (by show (Nat.ble A (repl N [CC.dat (.val (.int .u8 0))]).length && Nat.ble (repl N [CC.dat (.val (.int .u8 0))]).length ((repl N [CC.dat (.val (.int .u8 0))]).length - 0)) = true; rw [hrl]; simp [Nat.ble_eq]; omega) ?_
    refine bB_no (by show Nat.beq (dRows b).length 0 = false; rw [dRows_length]; exact Bool.eq_false_iff.2 fun hh => hb (Nat.eq_of_beq_eq_true hh)) ?_
    refine bB_yes (by
      have e1 := addN0 A
      show (Nat.beq 1 1 && (Nat.beq 1 1 && (Nat.ble (addN 0 (repl N [CC.dat (.val (.int .u8 0))]).length) (repl N [CC.dat (.val (.int .u8 0))]).length && (Nat.ble (addN 0 A + (dRows b).length) (addN 0 (repl N [CC.dat (.val (.int .u8 0))]).length) && noOwnRows (dRows b))))) = true
      rw [noOwnRows_dRows, e1, dRows_length, hrl, addN0 N]
      simp [Nat.ble_eq]; omega) ?_
    refine frz2 (rowF_frz (Q := 2) (o := Obj.mk kind [] entries target peer queue proc links up) ?_)
    show some (Bk.row 1 (splice (repl N [CC.dat (.val (.int .u8 0))]) (addN 0 A) (dRows b))) = _
    rw [addN0 A, repl_rows, dRows_splice, ← hw, splice_nil]
  · refine bB_no (by show Nat.beq (dRows data).length 0 = false; rw [dRows_length]; exact Bool.eq_false_iff.2 fun hh => hd (Nat.eq_of_beq_eq_true hh)) ?_
    refine bB_yes (by
      show (Nat.beq 1 1 && (Nat.beq 1 1 && (Nat.ble (repl N [CC.dat (.val (.int .u8 0))]).length (repl N [CC.dat (.val (.int .u8 0))]).length && (Nat.ble (0 + (dRows data).length) (repl N [CC.dat (.val (.int .u8 0))]).length && noOwnRows (dRows data))))) = true
      rw [noOwnRows_dRows, dRows_length, hrl]
      simp [Nat.ble_eq]; omega) ?_
    have hsl : (splice (repl N [CC.dat (.val (.int .u8 0))]) 0 (dRows data)).length = N := by
      rw [repl_rows, dRows_splice, dRows_length]
      unfold splice
      simp
      omega
    refine bB_yes (by show (Nat.ble A (splice (repl N [CC.dat (.val (.int .u8 0))]) 0 (dRows data)).length && Nat.ble (splice (repl N [CC.dat (.val (.int .u8 0))]) 0 (dRows data)).length ((splice (repl N [CC.dat (.val (.int .u8 0))]) 0 (dRows data)).length - 0)) = true; rw [hsl]; simp [Nat.ble_eq]; omega) ?_
    refine bB_no (by show Nat.beq (dRows b).length 0 = false; rw [dRows_length]; exact Bool.eq_false_iff.2 fun hh => hb (Nat.eq_of_beq_eq_true hh)) ?_
    refine bB_yes (by
      have e1 := addN0 A
      show (Nat.beq 1 1 && (Nat.beq 1 1 && (Nat.ble (addN 0 (splice (repl N [CC.dat (.val (.int .u8 0))]) 0 (dRows data)).length) (splice (repl N [CC.dat (.val (.int .u8 0))]) 0 (dRows data)).length && (Nat.ble (addN 0 A + (dRows b).length) (addN 0 (splice (repl N [CC.dat (.val (.int .u8 0))]) 0 (dRows data)).length) && noOwnRows (dRows b))))) = true
      rw [noOwnRows_dRows, e1, dRows_length, hsl, addN0 N]
      simp [Nat.ble_eq]; omega) ?_
    refine frz2 (rowF_frz (Q := 2) (o := Obj.mk kind data entries target peer queue proc links up) ?_)
    show some (Bk.row 1 (splice (splice (repl N [CC.dat (.val (.int .u8 0))]) 0 (dRows data)) (addN 0 A) (dRows b))) = _
    rw [addN0 A, repl_rows, dRows_splice, dRows_splice, ← hw]
set_option maxRecDepth 100000 in
set_option maxHeartbeats 16000000 in
theorem rwrite_body (o : Obj) (hf : o.fit) (at' : Int) (b : List (List Dt)) (hb : b.length ≤ 4194304) : body Try.prog c21 [o.cv, vInt .i64 at', slV 1 b] [] (fun r m => FrzV m r (.tup [objR (writeS o at' b).1, iRV (writeS o at' b).2])) := by
  refine bB_beq (fun h1 => ?_) (fun h1 => ?_)
  · have h1 : o.kind = 2 := h1
    rw [writeS, if_pos h1]
    exact frz2 nilO_frz
  have h1 : ¬ o.kind = 2 := h1
  refine bB_bne (fun h2 => ?_) (fun h2 => ?_)
  · have h2 : o.kind ≠ 1 := h2
    rw [writeS, if_neg h1, if_pos h2]
    exact frz2 nilO_frz
  have h2 : ¬ o.kind ≠ 1 := by simpa using h2
  refine bB_dec (fun h3 => ?_) (fun h3 => ?_)
  · rw [writeS, if_neg h1, if_neg h2, if_pos h3]
    exact frz2 nilO_frz
  have h3 : ¬ at' < 0 := h3
  refine bB_dec (fun h4 => ?_) (fun h4 => ?_)
  · rw [writeS, if_neg h1, if_neg h2, if_neg h3, if_pos (.inl h4)]
    exact frz2 nilO_frz
  have h4 : ¬ at' > 60 := h4
  have hw : IntKind.i64.wrap (60 - at') = 60 - at' := by
    obtain ⟨z, hz⟩ : ∃ z : Nat, 60 - at' = (z : Int) := ⟨(60 - at').toNat, by omega⟩
    rw [hz, wrapN (by omega)]
  refine bB_dec (fun h5 => ?_) (fun h5 => ?_)
  · have h5 : (b.length : Int) > IntKind.i64.wrap (60 - at') := h5
    rw [hw] at h5
    rw [writeS, if_neg h1, if_neg h2, if_neg h3, if_pos (.inr h5)]
    exact frz2 nilO_frz
  have h5 : ¬ (b.length : Int) > IntKind.i64.wrap (60 - at') := h5
  rw [hw] at h5
  rw [writeS, if_neg h1, if_neg h2, if_neg h3, if_neg (fun h => h.elim h4 h5)]
  obtain ⟨A, rfl⟩ : ∃ A : Nat, at' = A := ⟨at'.toNat, by omega⟩
  rw [show ((A : Nat) : Int).toNat = A from rfl]
  have hdl := hf.1
  refine bB_beq (fun h6 => ?_) (fun h6 => ?_)
  · have h6 : (b.length : Int) = 0 := h6
    rw [wdata, if_pos (by omega)]
    exact frz2 (FrzR.self rfl)
  have h6 : (b.length : Int) ≠ 0 := h6
  have hwA : IntKind.i64.wrap ((A : Int) + (b.length : Int)) = ((A + b.length : Nat) : Int) := by
    rw [show (A : Int) + (b.length : Int) = ((A + b.length : Nat) : Int) by omega, wrapN (by omega)]
  refine bB_dec (fun h7 => ?_) (fun h7 => ?_)
  · have h7 : IntKind.i64.wrap ((A : Int) + (b.length : Int)) > (o.data.length : Int) := h7
    rw [hwA] at h7
    refine ⟨_, View.of 2 [0, 1] [] rfl rfl rfl rfl rfl rfl ?_ (.put (notF rfl) rfl (.eq rfl (by simp)) (.put (notF rfl) rfl (.eq rfl (by simp)) (.nil _))), seg21 o hdl b A (A + b.length) (by rw [if_pos (by omega)]) (by omega) (by omega) (by omega)⟩
    repeat (first | exact .nil | refine .junk ?_ | refine .eq rfl ?_ | refine .put (.ren (congrArg (fun z => CV.rv (RV.one (CC.dat (Dt.val (Value.int IntKind.i64 z))))) hwA).symm) ?_)
  · have h7 : ¬ IntKind.i64.wrap ((A : Int) + (b.length : Int)) > (o.data.length : Int) := h7
    rw [hwA] at h7
    refine ⟨_, View.of 2 [0, 1] [] rfl rfl rfl rfl rfl rfl ?_ (.put (notF rfl) rfl (.eq rfl (by simp)) (.put (notF rfl) rfl (.eq rfl (by simp)) (.nil _))), seg21 o hdl b A o.data.length (by rw [if_neg (by omega)]) (by omega) (by omega) (by omega)⟩
    repeat (first | exact .nil | refine .junk ?_ | refine .eq rfl ?_)
set_option maxRecDepth 100000 in
theorem rwrite_ok (o : Obj) (hf : o.fit) (at' : Int) (b : List (List Dt)) (hb : b.length ≤ 4194304) {m : Mem} {K : CV → Mem → Prop} (h : K (.tup [objR (writeS o at' b).1, iRV (writeS o at' b).2]) m) : ACall Try.prog 21 [o.cv, vInt .i64 at', slV 1 b] m K :=
  acall_frame (acall_body_g Try.func21 l21 rfl (Nat.le_of_ble_eq_true rfl) (rwrite_body o hf at' b hb)) (by simp [Obj.cv, Obj.enc, slV, vInt, CV.isD, CC.isD, RV.isD]) fun r m1 hf => ⟨_, hf, h⟩
set_option maxRecDepth 100000 in
set_option maxHeartbeats 8000000 in
theorem readX_body (o : Obj) (hf : o.data.length ≤ 4194304) (at' n : Int) : body Try.prog c18 [o.cv, vInt .i64 at', vInt .i64 n] [] (fun r m => FrzV m r (.tup [byR (readS o.kind o.data at' n).1, iRV (readS o.kind o.data at' n).2])) := by
  obtain ⟨kind, data, entries, target, peer, queue, proc, links, up⟩ := o
  have hf : data.length ≤ 4194304 := hf
  show body Try.prog c18 _ [] (fun r m => FrzV m r (.tup [byR (readS kind data at' n).1, iRV (readS kind data at' n).2]))
  refine bB_beq (fun h1 => ?_) (fun h1 => ?_)
  · rw [readS, if_pos h1]
    exact frz2 (.one (.esl 1))
  refine bB_bne (fun h2 => ?_) (fun h2 => ?_)
  · rw [readS, if_neg h1, if_pos h2]
    exact frz2 (.one (.esl 1))
  have hk : kind = 1 := by simpa using h2
  refine bB_dec (fun h3 => ?_) (fun h3 => ?_)
  · rw [readS, if_neg h1, if_neg (by simpa using hk), if_pos (.inl h3)]
    exact frz2 (.one (.esl 1))
  refine bB_dec (fun h4 => ?_) (fun h4 => ?_)
  · rw [readS, if_neg h1, if_neg (by simpa using hk), if_pos (.inr h4)]
    exact frz2 (.one (.esl 1))
  rw [readS, if_neg h1, if_neg (by simpa using hk), if_neg (fun h => h.elim h3 h4)]
  have h3 : ¬ at' < 0 := h3
  have h4 : ¬ n < 0 := h4
  obtain ⟨A, rfl⟩ : ∃ A : Nat, at' = A := ⟨at'.toNat, by omega⟩
  obtain ⟨N, rfl⟩ : ∃ N : Nat, n = N := ⟨n.toNat, by omega⟩
  rw [show ((A : Nat) : Int).toNat = A from rfl, show ((N : Nat) : Int).toNat = N from rfl]
  have hm1 := minN_le A data.length
  have hm2 := minN_le N (data.length - minN A data.length)
  have hL : natX (vInt .i64 (if (data.length : Int) < (A : Int) then (data.length : Int) else (A : Int))) = some (minN A data.length) := by
    rw [minN_int]; rfl
  have hE : IntKind.i64.wrap ((if (data.length : Int) < (A : Int) then (data.length : Int) else (A : Int)) + (if IntKind.i64.wrap ((data.length : Int) - (if (data.length : Int) < (A : Int) then (data.length : Int) else (A : Int))) < (N : Int) then IntKind.i64.wrap ((data.length : Int) - (if (data.length : Int) < (A : Int) then (data.length : Int) else (A : Int))) else (N : Int)))
      = ((minN A data.length + minN N (data.length - minN A data.length) : Nat) : Int) := by
    rw [minN_int, show (data.length : Int) - ((minN A data.length : Nat) : Int) = ((data.length - minN A data.length : Nat) : Int) by omega, wrapN (by omega), minN_int,
      show ((minN A data.length : Nat) : Int) + ((minN N (data.length - minN A data.length) : Nat) : Int) = ((minN A data.length + minN N (data.length - minN A data.length) : Nat) : Int) by omega, wrapN (by omega)]
  have hH : natX (vInt .i64 (IntKind.i64.wrap ((if (data.length : Int) < (A : Int) then (data.length : Int) else (A : Int)) + (if IntKind.i64.wrap ((data.length : Int) - (if (data.length : Int) < (A : Int) then (data.length : Int) else (A : Int))) < (N : Int) then IntKind.i64.wrap ((data.length : Int) - (if (data.length : Int) < (A : Int) then (data.length : Int) else (A : Int))) else (N : Int))))) = some (minN A data.length + minN N (data.length - minN A data.length)) := by
    rw [hE]; rfl
  refine ok_some hL ?_
  refine ok_some hH ?_
  refine bB_yes (by rw [Bool.and_eq_true, Nat.ble_eq, Nat.ble_eq]; show minN A data.length ≤ minN A data.length + minN N (data.length - minN A data.length) ∧ minN A data.length + minN N (data.length - minN A data.length) ≤ data.length; omega) ?_
  refine bclone_ok (cutD data A N) (by simp [cutD]; omega) ?_
  exact frz2 (FrzR.self rfl)
set_option maxRecDepth 100000 in
theorem readX_ok (o : Obj) (hf : o.data.length ≤ 4194304) (at' n : Int) {m : Mem} {K : CV → Mem → Prop} (h : K (.tup [byR (readS o.kind o.data at' n).1, iRV (readS o.kind o.data at' n).2]) m) : ACall Try.prog 18 [o.cv, vInt .i64 at', vInt .i64 n] m K :=
  acall_frame (acall_body Try.func18 l18 rfl (Nat.le_of_ble_eq_true rfl) (readX_body o hf at' n)) (by simp [Obj.cv, Obj.enc, vInt, CV.isD, CC.isD, RV.isD]) fun r m1 hf => ⟨_, hf, h⟩

def c17 : LF := ⟨93, [.tmp 6, .tmp 7, .tmp 8], (.seq (.reg [
    ⟨(some 6), .mov (.c (.rv (.one .esl))), none⟩,
    ⟨(some 7), .mov (.c (.rv (.one (.dat (.val (.int .i64 (0))))))), none⟩,
    ⟨(some 8), .mov (.c (.rv (.one (.dat (.val (.int .i64 (0))))))), none⟩]) (.seq (.seq (.reg [
    ⟨(some 14), .mov (.t 0), none⟩,
    ⟨(some 15), .mov (.t 1), none⟩,
    ⟨(some 16), .call (.c (.rv (.one (.fn 34 [])))) [(.t 14), (.t 15), (.c (.rv (.one (.dat (.val (.int .i64 (0)))))))], none⟩,
    ⟨(some 17), .un .not (.t 16), none⟩]) (.cond (.t 17) (.seq (.reg [
    ⟨(some 6), .mov (.c (.rv (.one .esl))), none⟩,
    ⟨(some 7), .mov (.c (.rv (.one (.dat (.val (.int .i64 (0))))))), none⟩,
    ⟨(some 8), .mov (.c (.rv (.one (.dat (.val (.int .i64 (6))))))), none⟩]) .ret) .skip)) (.seq (.seq (.reg [
    ⟨(some 18), .mov (.t 0), none⟩,
    ⟨(some 19), .mov (.t 1), none⟩,
    ⟨(some 20), .idx 9 (.t 18) (.t 19), none⟩,
    ⟨(some 21), .fadr 0 (.t 20), none⟩,
    ⟨(some 22), .load false 1 (.t 21), none⟩,
    ⟨(some 23), .bin .neq (.t 22) (.c (.rv (.one (.dat (.val (.int .i64 (2))))))), none⟩]) (.cond (.t 23) (.seq (.reg [
    ⟨(some 6), .mov (.c (.rv (.one .esl))), none⟩,
    ⟨(some 7), .mov (.c (.rv (.one (.dat (.val (.int .i64 (0))))))), none⟩,
    ⟨(some 8), .mov (.c (.rv (.one (.dat (.val (.int .i64 (11))))))), none⟩]) .ret) .skip)) (.seq (.reg [
    ⟨(some 24), .mov (.t 0), none⟩,
    ⟨(some 25), .mov (.t 1), none⟩,
    ⟨(some 26), .mov (.t 2), none⟩,
    ⟨(some 27), .call (.c (.rv (.one (.fn 11 [])))) [(.t 24), (.t 25), (.t 26)], none⟩,
    ⟨(some 9), .mov (.t 27), none⟩]) (.seq (.seq (.reg [
    ⟨(some 28), .mov (.t 9), none⟩,
    ⟨(some 29), .bin .lss (.t 28) (.c (.rv (.one (.dat (.val (.int .i64 (0))))))), none⟩]) (.cond (.t 29) (.seq (.reg [
    ⟨(some 6), .mov (.c (.rv (.one .esl))), none⟩,
    ⟨(some 7), .mov (.c (.rv (.one (.dat (.val (.int .i64 (0))))))), none⟩,
    ⟨(some 8), .mov (.c (.rv (.one (.dat (.val (.int .i64 (6))))))), none⟩]) .ret) .skip)) (.seq (.seq (.reg [
    ⟨(some 30), .mov (.t 0), none⟩,
    ⟨(some 31), .mov (.t 9), none⟩,
    ⟨(some 32), .idx 9 (.t 30) (.t 31), none⟩,
    ⟨(some 33), .fadr 0 (.t 32), none⟩,
    ⟨(some 34), .load false 1 (.t 33), none⟩,
    ⟨(some 35), .bin .eql (.t 34) (.c (.rv (.one (.dat (.val (.int .i64 (2))))))), none⟩,
    ⟨(some 36), .mov (.t 35), none⟩,
    ⟨(some 37), .mov (.t 0), (some (36, true))⟩,
    ⟨(some 38), .mov (.t 9), (some (36, true))⟩,
    ⟨(some 39), .idx 9 (.t 37) (.t 38), (some (36, true))⟩,
    ⟨(some 40), .fadr 2 (.t 39), (some (36, true))⟩,
    ⟨(some 41), .load false 1 (.t 40), (some (36, true))⟩,
    ⟨(some 42), .len 1 (.t 41), (some (36, true))⟩,
    ⟨(some 43), .bin .gtr (.t 42) (.c (.rv (.one (.dat (.val (.int .i64 (0))))))), (some (36, true))⟩,
    ⟨(some 44), .pick (.t 36) (.t 43) (.c (.rv (.one (.dat (.val (.bool false)))))), none⟩]) (.cond (.t 44) (.seq (.reg [
    ⟨(some 6), .mov (.c (.rv (.one .esl))), none⟩,
    ⟨(some 7), .mov (.c (.rv (.one (.dat (.val (.int .i64 (0))))))), none⟩,
    ⟨(some 8), .mov (.c (.rv (.one (.dat (.val (.int .i64 (18))))))), none⟩]) .ret) .skip)) (.ghost (.seq (.reg [
    ⟨(some 45), .mov (.t 0), none⟩,
    ⟨(some 46), .mov (.t 1), none⟩,
    ⟨(some 47), .idx 9 (.t 45) (.t 46), none⟩,
    ⟨(some 48), .load true 9 (.t 47), none⟩,
    ⟨(some 10), .alloc [(.dat (.val (.int .i64 (0)))), .esl, .esl, (.dat (.val (.string ⟨#[]⟩))), (.dat (.val (.int .i64 (0)))), .esl, (.dat (.val (.int .i64 (0)))), (.dat (.val (.int .i64 (0)))), (.dat (.val (.int .i64 (0))))], none⟩,
    ⟨none, .store 9 (.t 10) (.t 48), none⟩]) (.seq (.reg [
    ⟨(some 49), .fadr 2 (.t 10), none⟩,
    ⟨none, .store 1 (.t 49) (.c (.rv (.one .esl))), none⟩]) (.seq (.seq (.reg [
    ⟨(some 50), .mov (.t 0), none⟩,
    ⟨(some 51), .mov (.t 1), none⟩,
    ⟨(some 52), .idx 9 (.t 50) (.t 51), none⟩,
    ⟨(some 53), .fadr 2 (.t 52), none⟩,
    ⟨(some 54), .load false 1 (.t 53), none⟩,
    ⟨(some 55), .len 1 (.t 54), none⟩,
    ⟨(some 56), .mov (.c (.rv (.one (.dat (.val (.int .i64 (0))))))), none⟩]) (.block 0 (.loop (.seq (.reg [
    ⟨(some 57), .bin .lss (.t 56) (.t 55), none⟩]) (.seq (.cond (.t 57) .skip (.exit 0)) (.seq (.block 1 (.seq (.reg [
    ⟨(some 58), .idx 2 (.t 54) (.t 56), none⟩,
    ⟨(some 59), .load true 2 (.t 58), none⟩,
    ⟨(some 12), .alloc [(.dat (.val (.string ⟨#[]⟩))), (.dat (.val (.int .i64 (0))))], none⟩,
    ⟨none, .store 2 (.t 12) (.t 59), none⟩]) (.seq (.reg [
    ⟨(some 60), .fadr 0 (.t 12), none⟩,
    ⟨(some 61), .load false 1 (.t 60), none⟩,
    ⟨(some 62), .mov (.t 2), none⟩,
    ⟨(some 63), .bin .neq (.t 61) (.t 62), none⟩]) (.cond (.t 63) (.reg [
    ⟨(some 64), .fadr 2 (.t 10), none⟩,
    ⟨(some 65), .load false 1 (.t 64), none⟩,
    ⟨(some 66), .load true 2 (.t 12), none⟩,
    ⟨(some 67), .bsl 2 [(.dat (.val (.string ⟨#[]⟩))), (.dat (.val (.int .i64 (0))))] 1 [(0, (.t 66))], none⟩,
    ⟨(some 68), .app 2 24 (.t 65) (.t 67), none⟩,
    ⟨(some 69), .fadr 2 (.t 10), none⟩,
    ⟨none, .store 1 (.t 69) (.t 68), none⟩]) .skip)))) (.reg [
    ⟨(some 70), .bin .add (.t 56) (.c (.rv (.one (.dat (.val (.int .i64 (1))))))), none⟩,
    ⟨(some 56), .mov (.t 70), none⟩]))))))) (.seq (.reg [
    ⟨(some 71), .mov (.t 0), none⟩,
    ⟨(some 72), .mov (.t 1), none⟩,
    ⟨(some 73), .load true 9 (.t 10), none⟩,
    ⟨(some 74), .call (.c (.rv (.one (.fn 26 [])))) [(.t 71), (.t 72), (.t 73)], none⟩,
    ⟨(some 0), .mov (.t 74), none⟩]) (.seq (.reg [
    ⟨(some 75), .mov (.t 0), none⟩,
    ⟨(some 76), .mov (.t 9), none⟩,
    ⟨(some 77), .idx 9 (.t 75) (.t 76), none⟩,
    ⟨(some 78), .load true 9 (.t 77), none⟩,
    ⟨(some 13), .alloc [(.dat (.val (.int .i64 (0)))), .esl, .esl, (.dat (.val (.string ⟨#[]⟩))), (.dat (.val (.int .i64 (0)))), .esl, (.dat (.val (.int .i64 (0)))), (.dat (.val (.int .i64 (0)))), (.dat (.val (.int .i64 (0))))], none⟩,
    ⟨none, .store 9 (.t 13) (.t 78), none⟩]) (.seq (.reg [
    ⟨(some 79), .fadr 7 (.t 13), none⟩,
    ⟨(some 80), .load false 1 (.t 79), none⟩,
    ⟨(some 81), .bin .sub (.t 80) (.c (.rv (.one (.dat (.val (.int .i64 (1))))))), none⟩,
    ⟨(some 82), .fadr 7 (.t 13), none⟩,
    ⟨none, .store 1 (.t 82) (.t 81), none⟩]) (.seq (.seq (.reg [
    ⟨(some 83), .fadr 0 (.t 13), none⟩,
    ⟨(some 84), .load false 1 (.t 83), none⟩,
    ⟨(some 85), .bin .eql (.t 84) (.c (.rv (.one (.dat (.val (.int .i64 (2))))))), none⟩]) (.cond (.t 85) (.reg [
    ⟨(some 86), .mov (.t 9), none⟩,
    ⟨(some 87), .fadr 8 (.t 13), none⟩,
    ⟨none, .store 1 (.t 87) (.t 86), none⟩]) .skip)) (.seq (.reg [
    ⟨(some 88), .mov (.t 0), none⟩,
    ⟨(some 89), .mov (.t 9), none⟩,
    ⟨(some 90), .load true 9 (.t 13), none⟩,
    ⟨(some 91), .call (.c (.rv (.one (.fn 26 [])))) [(.t 88), (.t 89), (.t 90)], none⟩,
    ⟨(some 92), .mov (.t 9), none⟩,
    ⟨(some 6), .mov (.t 91), none⟩,
    ⟨(some 7), .mov (.t 92), none⟩,
    ⟨(some 8), .mov (.c (.rv (.one (.dat (.val (.int .i64 (0))))))), none⟩]) .ret)))))))))))))))⟩
/-! StoreTells: the document's Remove: exactly; Enter at the program's objects -/
theorem l17 : lowF Try.prog Try.f17 = some c17.er := by kernel_rfl
def D45 : LC := sndW (sndW (sndW (sndW (sndW (sndW c17.code)))))
def G45 : LC := unW D45
structure RmSt where
  k : Nat
  acc : List NE
def rmP (name : ByteArray) (e : NE) : Bool := decide (e.1.toList ≠ name.toList)
theorem rm_take {es : List NE} {name : ByteArray} {k : Nat} (h : k < es.length) : (es.take (k + 1)).filter (rmP name) = (es.take k).filter (rmP name) ++ (if rmP name es[k] = true then [es[k]] else []) := by
  rw [takeO (List.getElem?_eq_getElem h), List.filter_append]
  congr 1
  rw [List.filter_cons]
  split <;> simp
theorem rm_len {es : List NE} {name : ByteArray} {k : Nat} : ((es.take k).filter (rmP name)).length ≤ k := Nat.le_trans (List.length_filter_le _ _) (by rw [List.length_take]; omega)
theorem withS_set {l : List Obj} {k : Nat} {o : Obj} (h : k < l.length) : withS l k o = l.set k o := by
  rw [withS, if_neg (by omega), Int.toNat_natCast]
theorem remSO_eq {l : List Obj} {n k : Nat} (hn : n < l.length) {name : ByteArray} {l1 : List Obj} (h : l.set n { l[n] with entries := ((l[n].entries.map unE).filter (rmP name)).map entD } = l1) (hk : k < l1.length) :
    remSO l n k name = l1.set k { l1[k] with links := IntKind.i64.wrap (l1[k].links - 1), up := if l1[k].kind = 2 then (k : Int) else l1[k].up } := by
  subst h
  unfold remSO
  rw [List.getElem?_eq_getElem hn]
  simp only []
  rw [show (fun e : NE => decide (e.1.toList ≠ name.toList)) = rmP name from rfl, List.getElem?_eq_getElem hk]
def emC (c : CC) (kind : Int) (data : List (List Dt)) (target : ByteArray) (peer : Int) (queue : List Msg) (proc links up : Int) : List CC := [.dat (.val (.int .i64 kind)), .dat (.sl 1 data), c, .dat (.val (.string target)), .dat (.val (.int .i64 peer)), .dat (.sl 4 (queue.map Msg.enc)), .dat (.val (.int .i64 proc)), .dat (.val (.int .i64 links)), .dat (.val (.int .i64 up))]
set_option maxRecDepth 100000 in
set_option maxHeartbeats 16000000 in
theorem seg45 (l : List Obj) (hl : l.length ≤ 4194304) (n : Nat) (hn : n < l.length) (es : List NE) (he : l[n].entries = es.map entD) (hes : es.length ≤ 4194304) (name : ByteArray) (k : Nat) (hk : k < l.length) :
    aw Try.prog 0 G45 (endK Try.prog c17.res (fun r m => FrzV m r (.tup [objsR (remSO l n k name), iRV (k : Nat), iRV 0])))
      ⟨mkE 93 [(0, objsV l), (1, vInt .i64 (n : Nat)), (2, vStr name), (9, vInt .i64 (k : Nat))], []⟩ := by
  have hog := obj_getO hn
  refine ok_some hog ?_
  have hR := fun l1 (h : l.set n { l[n] with entries := ((l[n].entries.map unE).filter (rmP name)).map entD } = l1) hp => remSO_eq (k := k) (name := name) hn h hp
  rw [he, unE_map] at hR
  generalize l[n] = o at he hog hR
  obtain ⟨kind, data, entries, target, peer, queue, proc, links, up⟩ := o
  have he : entries = es.map entD := he
  subst he
  have hR : ∀ l1 : List Obj, l.set n ⟨kind, data, (es.filter (rmP name)).map entD, target, peer, queue, proc, links, up⟩ = l1 → ∀ hp : k < l1.length, remSO l n k name = l1.set k { l1[k] with links := IntKind.i64.wrap (l1[k].links - 1), up := if l1[k].kind = 2 then (k : Int) else l1[k].up } := hR
  refine ok_some hog ?_
  have after : ∀ acc : List NE, acc = es.filter (rmP name) → ∃ l1, withS l n ⟨kind, data, acc.map entD, target, peer, queue, proc, links, up⟩ = l1 ∧ l1.length ≤ 4194304 ∧ ∃ hp1 : k < l1.length,
      remSO l n k name = withS l1 k { l1[k] with links := IntKind.i64.wrap (l1[k].links - 1), up := if l1[k].kind = 2 then (k : Int) else l1[k].up } := by
    intro acc hacc
    have hp1 : k < (l.set n ⟨kind, data, acc.map entD, target, peer, queue, proc, links, up⟩).length := by simpa using hk
    refine ⟨_, withS_set hn, by rw [List.length_set]; exact hl, hp1, ?_⟩
    rw [withS_set hp1, hR _ (by rw [← hacc]) hp1]
  refine loop_keep (fun (a : RmSt) => a.k ≤ es.length ∧ a.acc = (es.take a.k).filter (rmP name)) [0, 1, 2, 9, 10, 54, 55] (fun a => [(56, vInt .i64 (a.k : Nat))])
    (fun a => match a.acc with
      | [] => [.var (emC .esl kind data target peer queue proc links up)]
      | x :: r => [.var (emC (.row 1 2 0 none) kind data target peer queue proc links up), .row 2 (dRows ((x :: r).map entD))])
    (fun a => es.length - a.k) ⟨0, []⟩ ⟨Nat.zero_le _, rfl⟩ ?_ (fun a ha => ?_)
  · refine View.of 1 [0] [] rfl rfl rfl rfl rfl rfl ?_ ?_
    · repeat (first | exact .nil | refine .junk ?_ | refine .eq rfl ?_)
    · exact .put (notF rfl) rfl (.eq rfl (by simp)) (.nil _)
  obtain ⟨j, acc⟩ := a
  obtain ⟨hJ1, hJ2⟩ := ha
  have hJ1 : j ≤ es.length := hJ1
  have hacc : acc = (es.take j).filter (rmP name) := hJ2
  have hal : acc.length ≤ es.length := by rw [hacc]; exact Nat.le_trans rm_len hJ1
  have hend : ¬ j < es.length → acc = es.filter (rmP name) := fun h => by rw [hacc, List.take_of_length_le (by omega)]
  cases acc with
  | nil =>
    refine bB_dec (fun h => ?_) (fun h => ?_)
    · have hlt : j < es.length := by
        have h : (j : Int) < ((es.map entD).length : Int) := h
        rw [List.length_map] at h
        omega
      refine ok_some (ent_get hlt) ?_
      refine bB_split (fun hne => ?_) (fun hne => ?_)
      · have hp : rmP name es[j] = true := by simpa [rmP] using hne
        refine ⟨by simp [subL, dRows] <;> omega, ?_⟩
        refine ⟨⟨j + 1, [es[j]]⟩, ⟨hlt, ?_⟩, (show es.length - (j + 1) < es.length - j by omega), View.of 4 [0, 3] [] rfl rfl rfl rfl rfl rfl ?_ ?_⟩
        · show [es[j]] = _
          rw [rm_take hlt, ← hacc, if_pos hp]; rfl
        · repeat (first | exact .nil | refine .junk ?_ | refine .put (.ren (next_i64 (by omega)).symm) ?_ | refine .eq rfl ?_)
        · exact .put (notF rfl) rfl (.eq rfl (by simp)) (.put (notF rfl) rfl (.rowDE (by simp [subL, dRows, entD])) (.nil _))
      · have hp : ¬ rmP name es[j] = true := by simpa [rmP] using hne
        refine ⟨⟨j + 1, []⟩, ⟨hlt, ?_⟩, (show es.length - (j + 1) < es.length - j by omega), View.of 2 [0] [] rfl rfl rfl rfl rfl rfl ?_ ?_⟩
        · show [] = _
          rw [rm_take hlt, ← hacc, if_neg hp]; rfl
        · repeat (first | exact .nil | refine .junk ?_ | refine .put (.ren (next_i64 (by omega)).symm) ?_ | refine .eq rfl ?_)
        · exact .put (notF rfl) rfl (.eq rfl (by simp)) (.nil _)
    · have hge : ¬ j < es.length := by
        have h : ¬ (j : Int) < ((es.map entD).length : Int) := h
        rw [List.length_map] at h
        omega
      obtain ⟨l1, hw, hl1, hp1, fin1⟩ := after [] (hend hge)
      refine acall_pre (args' := [objsV l, vInt .i64 (n : Nat), (Obj.mk kind data (([] : List NE).map entD) target peer queue proc links up).cv]) (m' := [.dead]) (View.of 1 [0] [] rfl rfl rfl rfl rfl rfl
        (.eq rfl (.eq rfl (.put (CcsVw.agg (.cons (.ren (.dat _)) (.cons (.ren (.dat _)) (.cons (.frz (.esl 2)) (.cons (.ren (.dat _)) (.cons (.ren (.dat _)) (.cons (.ren (.dat _)) (.cons (.ren (.dat _)) (.cons (.ren (.dat _)) (.cons (.ren (.dat _)) .nil)))))))))) .nil)))
        (.dead (.nil _))) ?_
      refine with_ok l hl n (by omega) _ ?_
      rw [hw]
      refine ok_some (obj_getO hp1) ?_
      refine bB_beq (fun h => ?_) (fun h => ?_)
      · refine with_ok l1 hl1 k (by omega) { l1[k] with links := IntKind.i64.wrap (l1[k].links - 1), up := k } ?_
        rw [fin1, if_pos h]
        exact frz3 (FrzR.self rfl) (FrzR.self rfl)
      · refine with_ok l1 hl1 k (by omega) { l1[k] with links := IntKind.i64.wrap (l1[k].links - 1) } ?_
        rw [fin1, if_neg h]
        exact frz3 (FrzR.self rfl) (FrzR.self rfl)
  | cons x r =>
    have hr : r.length ≤ 4194304 := by simp at hal; omega
    refine bB_dec (fun h => ?_) (fun h => ?_)
    · have hlt : j < es.length := by
        have h : (j : Int) < ((es.map entD).length : Int) := h
        rw [List.length_map] at h
        omega
      refine ok_some (ent_get hlt) ?_
      refine bB_split (fun hne => ?_) (fun hne => ?_)
      · have hp : rmP name es[j] = true := by simpa [rmP] using hne
        refine ⟨by simp [subL, dRows] <;> omega, ?_⟩
        refine ⟨⟨j + 1, (x :: r) ++ [es[j]]⟩, ⟨hlt, ?_⟩, (show es.length - (j + 1) < es.length - j by omega), View.of 5 [0, 4] [] rfl rfl rfl rfl rfl rfl ?_ ?_⟩
        · show (x :: r) ++ [es[j]] = _
          rw [rm_take hlt, ← hacc, if_pos hp]
        · repeat (first | exact .nil | refine .junk ?_ | refine .put (.ren (next_i64 (by omega)).symm) ?_ | refine .eq rfl ?_)
        · exact .put (notF rfl) rfl (.eq rfl (by simp)) (.put (notF rfl) rfl (.rowDE (by simp [subL, dRows, entD])) (.nil _))
      · have hp : ¬ rmP name es[j] = true := by simpa [rmP] using hne
        refine ⟨⟨j + 1, x :: r⟩, ⟨hlt, ?_⟩, (show es.length - (j + 1) < es.length - j by omega), View.of 3 [0, 1] [] rfl rfl rfl rfl rfl rfl ?_ ?_⟩
        · show (x :: r) = _
          rw [rm_take hlt, ← hacc, if_neg hp, List.append_nil]
        · repeat (first | exact .nil | refine .junk ?_ | refine .put (.ren (next_i64 (by omega)).symm) ?_ | refine .eq rfl ?_)
        · exact .put (notF rfl) rfl (.eq rfl (by simp)) (.put (notF rfl) rfl (.rowDE rfl) (.nil _))
    · have hge : ¬ j < es.length := by
        have h : ¬ (j : Int) < ((es.map entD).length : Int) := h
        rw [List.length_map] at h
        omega
      obtain ⟨l1, hw, hl1, hp1, fin1⟩ := after (x :: r) (hend hge)
      refine acall_pre (args' := [objsV l, vInt .i64 (n : Nat), (Obj.mk kind data ((x :: r).map entD) target peer queue proc links up).cv]) (m' := [.dead, .dead]) (View.of 2 [0, 1] [1] rfl rfl rfl rfl rfl rfl
        (.eq rfl (.eq rfl (.put (CcsVw.agg (.cons (.ren (.dat _)) (.cons (.ren (.dat _)) (.cons (.frz (frzE (Z := fun k => memN [1] k = true) rfl rfl rfl)) (.cons (.ren (.dat _)) (.cons (.ren (.dat _)) (.cons (.ren (.dat _)) (.cons (.ren (.dat _)) (.cons (.ren (.dat _)) (.cons (.ren (.dat _)) .nil)))))))))) .nil)))
        (.dead (.dead (.nil _)))) ?_
      refine with_ok l hl n (by omega) _ ?_
      rw [hw]
      refine ok_some (obj_getO hp1) ?_
      refine bB_beq (fun h => ?_) (fun h => ?_)
      · refine with_ok l1 hl1 k (by omega) { l1[k] with links := IntKind.i64.wrap (l1[k].links - 1), up := k } ?_
        rw [fin1, if_pos h]
        exact frz3 (FrzR.self rfl) (FrzR.self rfl)
      · refine with_ok l1 hl1 k (by omega) { l1[k] with links := IntKind.i64.wrap (l1[k].links - 1) } ?_
        rw [fin1, if_neg h]
        exact frz3 (FrzR.self rfl) (FrzR.self rfl)
set_option maxRecDepth 100000 in
set_option maxHeartbeats 16000000 in
theorem rremove_body (l : List Obj) (hs : SrtL l) (dir : Int) (name : ByteArray) : body Try.prog c17 [objsV l, vInt .i64 dir, vStr name] [] (fun r m => FrzV m r (.tup [objsR (sRemoveS l dir name).1, iRV (sRemoveS l dir name).2.1, iRV (sRemoveS l dir name).2.2])) := by
  refine is_ok l dir 0 ?_
  rw [isS_eq]
  by_cases hI : isSO l dir 0 = true
  · rw [hI]
    obtain ⟨n, rfl, hn⟩ := isSO_yes0 hI
    have hR : sRemoveS l n name = remKO l[n] l n name := by rw [sRemoveS, if_pos hI, Int.toNat_natCast, List.getElem?_eq_getElem hn]
    rw [hR]
    refine ok_some (obj_getO hn) ?_
    refine bB_bne (fun h => ?_) (fun hk2 => ?_)
    · have h : l[n].kind ≠ 2 := h
      rw [remKO, if_pos h]
      exact frz3 (.one (.esl 9)) (FrzR.self rfl)
    have hk2 : l[n].kind = 2 := by simpa using hk2
    refine rfindX_ok l hs n name ?_
    rw [rFindS_at hn hk2]
    obtain ⟨es, he, hsrt, hlen, hrng⟩ := hs.en _ (List.getElem_mem hn)
    rw [he, unE_map]
    have hF := findS_OK es name
    refine bB_dec (fun hf0 => ?_) (fun hf0 => ?_)
    · have hf0 : findS es name < 0 := hf0
      rw [remKO, if_neg (by simpa using hk2), he, unE_map, if_pos hf0]
      exact frz3 (.one (.esl 9)) (FrzR.self rfl)
    have hf0 : ¬ findS es name < 0 := hf0
    obtain ⟨k, hfk, hkl⟩ : ∃ k : Nat, findS es name = k ∧ k < l.length := by
      rcases hF with ⟨e, he1, _, h2⟩ | ⟨h2, _⟩
      · have := hrng e he1
        exact ⟨(findS es name).toNat, by omega, by omega⟩
      · omega
    have hRK : remKO l[n] l n name = if l[k].kind = 2 ∧ l[k].entries.length > 0 then ([], 0, 18) else (remSO l n k name, (k : Int), 0) := by
      rw [remKO, if_neg (by simpa using hk2), he, unE_map, hfk, if_neg (by omega), Int.toNat_natCast, List.getElem?_eq_getElem hkl]
    rw [hRK, hfk]
    refine ok_some (obj_getO hkl) ?_
    refine bB_beq (fun hk => ?_) (fun hk => ?_)
    · have hk : l[k].kind = 2 := hk
      refine ok_some (obj_getO hkl) ?_
      refine bB_dec (fun h8 => ?_) (fun h8 => ?_)
      · have h8 : (l[k].entries.length : Int) > 0 := h8
        rw [if_pos ⟨hk, by omega⟩]
        exact frz3 (.one (.esl 9)) (FrzR.self rfl)
      · have h8 : ¬ (l[k].entries.length : Int) > 0 := h8
        rw [if_neg (fun h => by have := h.2; omega)]
        refine ⟨_, View.of 0 [] [] rfl rfl rfl rfl rfl rfl ?_ (.nil _), seg45 l hs.fit.1 n hn es he hlen name k hkl⟩
        repeat (first | exact .nil | refine .junk ?_ | refine .eq rfl ?_)
    · have hk : ¬ l[k].kind = 2 := hk
      rw [if_neg (fun h => hk h.1)]
      refine ⟨_, View.of 0 [] [] rfl rfl rfl rfl rfl rfl ?_ (.nil _), seg45 l hs.fit.1 n hn es he hlen name k hkl⟩
      repeat (first | exact .nil | refine .junk ?_ | refine .eq rfl ?_)
  · rw [Bool.not_eq_true] at hI
    rw [hI, sRemoveS, if_neg (by rw [hI]; simp)]
    exact frz3 (.one (.esl 9)) (FrzR.self rfl)
set_option maxRecDepth 100000 in
theorem rremove_ok (l : List Obj) (hs : SrtL l) (dir : Int) (name : ByteArray) {m : Mem} {K : CV → Mem → Prop} (h : K (.tup [objsR (sRemoveS l dir name).1, iRV (sRemoveS l dir name).2.1, iRV (sRemoveS l dir name).2.2]) m) : ACall Try.prog 17 [objsV l, vInt .i64 dir, vStr name] m K :=
  acall_frame (acall_body_g Try.func17 l17 rfl (Nat.le_of_ble_eq_true rfl) (rremove_body l hs dir name)) (by simp [objsV, vStr, vInt, CV.isD, CC.isD, RV.isD]) fun r m1 hf => ⟨_, hf, h⟩
theorem renter_ok (l : List Obj) (hg : GoodE (l.map Obj.ob)) (dir : Int) (name : ByteArray) (b : Bool) (hN : ∀ {m : Mem} {K : CV → Mem → Prop}, K (vBool b) m → ACall Try.prog 40 [vStr name] m K) (obj : Int) {m : Mem} {K : CV → Mem → Prop} (h : K (.tup [objsR (sEnterS b l dir name obj).1, iRV (sEnterS b l dir name obj).2]) m) :
    ACall Try.prog 15 [objsV l, vInt .i64 dir, vStr name, vInt .i64 obj] m K := by
  have e : ∀ l : List Obj, objsV l = obsV (l.map Obj.ob) := fun l => by unfold objsV obsV; rw [obs_eq]
  rw [e]
  refine enter_okE _ hg dir name b hN obj ?_
  rw [sEnter_eq]
  have e2 : ∀ l : List Obj, obsR (l.map Obj.ob) = objsR l := fun l => by unfold objsR obsR; rw [obs_eq]
  show K (.tup [obsR (_ : List Ob), iRV _]) m
  rw [e2]
  exact h

/-! StoreTells: plain -/
def GL (l : List Obj) : Prop := fitL l ∧ ∀ o, o ∈ l → o.typ
theorem GL.nil : GL [] := ⟨⟨by simp, by simp⟩, by simp⟩
theorem GL.set {l : List Obj} (h : GL l) {n : Nat} {o : Obj} (hf : o.fit) (ht : o.typ) : GL (l.set n o) := by
  refine ⟨⟨by rw [List.length_set]; exact h.1.1, fun x hx => ?_⟩, fun x hx => ?_⟩
  · rcases List.mem_or_eq_of_mem_set hx with hx | rfl
    · exact h.1.2 x hx
    · exact hf
  · rcases List.mem_or_eq_of_mem_set hx with hx | rfl
    · exact h.2 x hx
    · exact ht
theorem GL.at {l : List Obj} (h : GL l) {n : Nat} {q : Obj} (hq : l[n]? = some q) : q.fit ∧ q.typ :=
  have hm := List.mem_of_getElem? hq
  ⟨h.1.2 q hm, h.2 q hm⟩
theorem GL.snoc {l : List Obj} (h : GL l) (hl : l.length < 4194304) {o : Obj} (hf : o.fit) (ht : o.typ) : GL (l ++ [o]) := by
  refine ⟨⟨by rw [List.length_append]; simp; omega, fun x hx => ?_⟩, fun x hx => ?_⟩
  · rcases List.mem_append.1 hx with hx | hx
    · exact h.1.2 x hx
    · simp at hx; subst hx; exact hf
  · rcases List.mem_append.1 hx with hx | hx
    · exact h.2 x hx
    · simp at hx; subst hx; exact ht
theorem GL.entSO {l : List Obj} (h : GL l) {n p : Nat} {name : ByteArray} (h8 : ∀ o, l[n]? = some o → o.entries.length < 8) : GL (entSO l n p name) := by
  unfold Go.Proofs.Ytmekobkcgajcjaa.entSO
  cases hn : l[n]? with
  | none => exact h
  | some o =>
    have ho := h.at hn
    have h8 := h8 o hn
    have h1 : GL (l.set n { o with entries := (insS (name, (p : Int)) (o.entries.map unE)).map entD }) :=
      h.set ⟨ho.1.1, by show ((insS (name, (p : Int)) (o.entries.map unE)).map entD).length ≤ _; rw [List.length_map, insS_len, List.length_map]; omega, ho.1.2.2⟩ ⟨ho.2.1, ⟨_, rfl⟩, ho.2.2.2⟩
    simp only []
    cases hp : (l.set n { o with entries := (insS (name, (p : Int)) (o.entries.map unE)).map entD })[p]? with
    | none => exact h
    | some q =>
      have hq := h1.at hp
      exact h1.set ⟨hq.1.1, hq.1.2⟩ ⟨hq.2.1, hq.2.2⟩
theorem sEnter_GL {b : Bool} {l : List Obj} {dir obj : Int} {name : ByteArray} (h : GL l) : GL (sEnterS b l dir name obj).1 := by
  by_cases h0 : (sEnterS b l dir name obj).2 = 0
  · obtain ⟨n, p, _, _, hp, hn, hk, hf, h8, hR⟩ := sEnter_ok h0
    rw [hR]
    exact h.entSO fun o ho => by
      rw [List.getElem?_eq_getElem hn] at ho
      cases ho
      exact h8
  · rw [sEnter_err h0]
    exact GL.nil
theorem GL.remSO {l : List Obj} (h : GL l) {n k : Nat} {name : ByteArray} : GL (remSO l n k name) := by
  unfold Go.Proofs.Ytmekobkcgajcjaa.remSO
  cases hn : l[n]? with
  | none => exact h
  | some o =>
    have ho := h.at hn
    have h1 : GL (l.set n { o with entries := ((o.entries.map unE).filter fun e => decide (e.1.toList ≠ name.toList)).map entD }) :=
      h.set ⟨ho.1.1, by
        show (((o.entries.map unE).filter fun e => decide (e.1.toList ≠ name.toList)).map entD).length ≤ _
        have := List.length_filter_le (fun e : NE => decide (e.1.toList ≠ name.toList)) (o.entries.map unE)
        rw [List.length_map] at this ⊢
        exact Nat.le_trans this ho.1.2.1, ho.1.2.2⟩ ⟨ho.2.1, ⟨_, rfl⟩, ho.2.2.2⟩
    simp only []
    cases hp : (l.set n { o with entries := ((o.entries.map unE).filter fun e => decide (e.1.toList ≠ name.toList)).map entD })[k]? with
    | none => exact h
    | some q =>
      have hq := h1.at hp
      exact h1.set ⟨hq.1.1, hq.1.2⟩ ⟨hq.2.1, hq.2.2⟩
theorem sRemove_GL {l : List Obj} {dir : Int} {name : ByteArray} (h : GL l) : GL (sRemoveS l dir name).1 := by
  unfold sRemoveS remKO
  split
  · split
    · exact GL.nil
    · split
      · exact GL.nil
      · split
        · exact GL.nil
        · split
          · exact GL.nil
          · split
            · exact GL.nil
            · exact h.remSO
  · exact GL.nil
theorem wpad_lenK (d : List (List Dt)) (n : Nat) : (wpad d n).length = d.length + (n - d.length) := by simp [wpad]
theorem readS_byD (kind : Int) (d : List Int) (at' n : Int) : ∃ c, (readS kind (byD d) at' n).1 = byD c := by
  unfold readS
  split
  · exact ⟨[], rfl⟩
  · split
    · exact ⟨[], rfl⟩
    · split
      · exact ⟨[], rfl⟩
      · refine ⟨(d.drop at'.toNat).take n.toNat, ?_⟩
        rw [cutD_eq]
        simp [byD, List.map_take, List.map_drop]
theorem wdata_byD (d b : List Int) (A : Nat) : ∃ c, wdata (byD d) A (byD b) = byD c := by
  unfold wdata
  split
  · exact ⟨d, rfl⟩
  · refine ⟨splice (d ++ List.replicate (A + b.length - d.length) 0) A b, ?_⟩
    simp [wpad, splice, byD, zb, List.map_take, List.map_drop]
theorem writeS_good (o : Obj) (hf : o.fit) (ht : o.typ) (at' : Int) (b : List Int) : (writeS o at' (byD b)).1.fit ∧ (writeS o at' (byD b)).1.typ := by
  have hz : nilO.fit ∧ nilO.typ := ⟨⟨by simp [nilO], by simp [nilO], by simp [nilO], fun q hq => by simp [nilO] at hq⟩, ⟨⟨[], rfl⟩, ⟨[], rfl⟩, fun q hq => by simp [nilO] at hq⟩⟩
  unfold writeS
  split
  · exact hz
  · split
    · exact hz
    · split
      · exact hz
      · split
        · exact hz
        · rename_i h3 h4
          obtain ⟨⟨d, hd⟩, ht2⟩ := ht
          refine ⟨⟨?_, hf.2⟩, ⟨?_, ht2⟩⟩
          · show (wdata o.data at'.toNat (byD b)).length ≤ 4194304
            have h1 := hf.1
            unfold wdata
            split
            · exact h1
            · have hp := wpad_lenK o.data (at'.toNat + (byD b).length)
              rw [splice_len (by omega)]
              omega
          · show ∃ c, wdata o.data at'.toNat (byD b) = byD c
            rw [hd]
            exact wdata_byD d b _
theorem GoodK.toE {l : List Obj} {op : List Opn} {ps : List Prc} (h : GoodK l op ps) : GoodE (l.map Obj.ob) := by
  refine ⟨by rw [List.length_map]; exact h.objs.len, fun o ho => ?_, fun o ho => ?_⟩
  · obtain ⟨x, hx, rfl⟩ := List.mem_map.1 ho
    have := h.objs.sm x hx
    exact ⟨⟨trivial, this.t.2.1⟩, this.e⟩
  · obtain ⟨x, hx, rfl⟩ := List.mem_map.1 ho
    rw [List.length_map]
    exact h.en x hx
theorem GoodK.gl {l : List Obj} {op : List Opn} {ps : List Prc} (h : GoodK l op ps) : GL l := ⟨h.objs.fit, fun o ho => (h.objs.sm o ho).t⟩
def fB (b : List Int) : Obj := ⟨1, byD b, [], ⟨#[]⟩, 0, [], 0, 0, 0⟩
theorem make_GL {l : List Obj} (h : GL l) (hz : ∀ o, o ∈ l → o.kind ≠ 0) {o : Obj} (hf : o.fit) (ht : o.typ) : GL (makeS l o).1 := by
  rw [make_nz hz]
  split
  · exact GL.nil
  · exact h.snoc (by omega) hf ht
theorem fB_args (b : List Int) (x : CV) : ArgsL [x, .rv (.agg [.dat (.val (.int .i64 1)), .dat (.sl 1 (byD b)), .esl, .dat (.val (.string ⟨#[]⟩)), .dat (.val (.int .i64 0)), .esl, .dat (.val (.int .i64 0)), .dat (.val (.int .i64 0)), .dat (.val (.int .i64 0))])] [x, (fB b).cv] :=
  .same _ (.agg (.cons (.same _) (.cons (.same _) (.cons (.esl 2) (.cons (.same _) (.cons (.same _) (.cons (.esl 4) (.cons (.same _) (.cons (.same _) (.cons (.same _) .nil))))))))) .nil)

def c3 : LF := ⟨229, [.tmp 14], (.seq (.reg [
    ⟨(some 14), .mov (.c (.rv (.one (.dat (.val (.bool false)))))), none⟩]) (.seq (.reg [
    ⟨(some 33), .mov (.t 0), none⟩,
    ⟨(some 34), .call (.c (.rv (.one (.fn 6 [])))) [(.t 33)], none⟩,
    ⟨(some 35), .fld false 0 1 (.t 34), none⟩,
    ⟨(some 15), .mov (.t 35), none⟩]) (.seq (.seq (.reg [
    ⟨(some 36), .mov (.t 15), none⟩,
    ⟨(some 37), .call (.c (.rv (.one (.fn 8 [])))) [(.t 36)], none⟩,
    ⟨(some 38), .mov (.t 15), none⟩,
    ⟨(some 39), .call (.c (.rv (.one (.fn 7 [])))) [(.t 37), (.t 38)], none⟩,
    ⟨(some 40), .un .not (.t 39), none⟩,
    ⟨(some 41), .mov (.t 40), none⟩,
    ⟨(some 42), .call (.c (.rv (.one (.fn 9 [])))) [], (some (41, false))⟩,
    ⟨(some 43), .len 1 (.t 42), (some (41, false))⟩,
    ⟨(some 44), .bin .neq (.t 43) (.c (.rv (.one (.dat (.val (.int .i64 (1))))))), (some (41, false))⟩,
    ⟨(some 45), .pick (.t 41) (.c (.rv (.one (.dat (.val (.bool true)))))) (.t 44), none⟩,
    ⟨(some 46), .mov (.t 45), none⟩,
    ⟨(some 47), .call (.c (.rv (.one (.fn 9 [])))) [], (some (46, false))⟩,
    ⟨(some 48), .idx 9 (.t 47) (.c (.rv (.one (.dat (.val (.int .i64 (0))))))), (some (46, false))⟩,
    ⟨(some 49), .fadr 0 (.t 48), (some (46, false))⟩,
    ⟨(some 50), .load false 1 (.t 49), (some (46, false))⟩,
    ⟨(some 51), .bin .neq (.t 50) (.c (.rv (.one (.dat (.val (.int .i64 (2))))))), (some (46, false))⟩,
    ⟨(some 52), .pick (.t 46) (.c (.rv (.one (.dat (.val (.bool true)))))) (.t 51), none⟩,
    ⟨(some 53), .mov (.t 52), none⟩,
    ⟨(some 54), .mov (.t 15), (some (53, false))⟩,
    ⟨(some 55), .mov (.t 1), (some (53, false))⟩,
    ⟨(some 56), .mov (.t 2), (some (53, false))⟩,
    ⟨(some 57), .call (.c (.rv (.one (.fn 10 [])))) [(.t 54), (.t 55), (.t 56)], (some (53, false))⟩,
    ⟨(some 58), .mov (.t 15), (some (53, false))⟩,
    ⟨(some 59), .mov (.t 1), (some (53, false))⟩,
    ⟨(some 60), .mov (.t 2), (some (53, false))⟩,
    ⟨(some 61), .call (.c (.rv (.one (.fn 11 [])))) [(.t 58), (.t 59), (.t 60)], (some (53, false))⟩,
    ⟨(some 62), .bin .neq (.t 57) (.t 61), (some (53, false))⟩,
    ⟨(some 63), .pick (.t 53) (.c (.rv (.one (.dat (.val (.bool true)))))) (.t 62), none⟩]) (.cond (.t 63) (.seq (.reg [
    ⟨(some 14), .mov (.c (.rv (.one (.dat (.val (.bool false)))))), none⟩]) .ret) .skip)) (.ghost (.seq (.reg [
    ⟨(some 65), .mov (.t 15), none⟩,
    ⟨(some 66), .mov (.t 6), none⟩,
    ⟨(some 67), .build [(.dat (.val (.int .i64 (0)))), .esl, .esl, (.dat (.val (.string ⟨#[]⟩))), (.dat (.val (.int .i64 (0)))), .esl, (.dat (.val (.int .i64 (0)))), (.dat (.val (.int .i64 (0)))), (.dat (.val (.int .i64 (0))))] [(0, 1, (.c (.rv (.one (.dat (.val (.int .i64 (1)))))))), (1, 1, (.t 66))], none⟩,
    ⟨(some 68), .call (.c (.rv (.one (.fn 12 [])))) [(.t 65), (.t 67)], none⟩,
    ⟨(some 64), .mov (.t 68), none⟩,
    ⟨(some 69), .ext (.t 64) 0, none⟩,
    ⟨(some 70), .ext (.t 64) 1, none⟩,
    ⟨(some 71), .ext (.t 64) 2, none⟩,
    ⟨(some 16), .mov (.t 69), none⟩,
    ⟨(some 17), .mov (.t 70), none⟩,
    ⟨(some 18), .mov (.t 71), none⟩]) (.seq (.reg [
    ⟨(some 73), .mov (.t 15), none⟩,
    ⟨(some 74), .mov (.t 6), none⟩,
    ⟨(some 75), .build [(.dat (.val (.int .i64 (0)))), .esl, .esl, (.dat (.val (.string ⟨#[]⟩))), (.dat (.val (.int .i64 (0)))), .esl, (.dat (.val (.int .i64 (0)))), (.dat (.val (.int .i64 (0)))), (.dat (.val (.int .i64 (0))))] [(0, 1, (.c (.rv (.one (.dat (.val (.int .i64 (1)))))))), (1, 1, (.t 74))], none⟩,
    ⟨(some 76), .call (.c (.rv (.one (.fn 13 [])))) [(.t 73), (.t 75)], none⟩,
    ⟨(some 72), .mov (.t 76), none⟩,
    ⟨(some 77), .ext (.t 72) 0, none⟩,
    ⟨(some 78), .ext (.t 72) 1, none⟩,
    ⟨(some 79), .ext (.t 72) 2, none⟩,
    ⟨(some 19), .mov (.t 77), none⟩,
    ⟨(some 20), .mov (.t 78), none⟩,
    ⟨(some 21), .mov (.t 79), none⟩]) (.seq (.seq (.reg [
    ⟨(some 80), .mov (.t 18), none⟩,
    ⟨(some 81), .mov (.t 21), none⟩,
    ⟨(some 82), .bin .neq (.t 80) (.t 81), none⟩,
    ⟨(some 83), .mov (.t 82), none⟩,
    ⟨(some 84), .mov (.t 17), (some (83, false))⟩,
    ⟨(some 85), .mov (.t 20), (some (83, false))⟩,
    ⟨(some 86), .bin .neq (.t 84) (.t 85), (some (83, false))⟩,
    ⟨(some 87), .pick (.t 83) (.c (.rv (.one (.dat (.val (.bool true)))))) (.t 86), none⟩,
    ⟨(some 88), .mov (.t 87), none⟩,
    ⟨(some 89), .mov (.t 16), (some (88, false))⟩,
    ⟨(some 90), .mov (.t 19), (some (88, false))⟩,
    ⟨(some 91), .call (.c (.rv (.one (.fn 7 [])))) [(.t 89), (.t 90)], (some (88, false))⟩,
    ⟨(some 92), .un .not (.t 91), (some (88, false))⟩,
    ⟨(some 93), .pick (.t 88) (.c (.rv (.one (.dat (.val (.bool true)))))) (.t 92), none⟩]) (.cond (.t 93) (.seq (.reg [
    ⟨(some 14), .mov (.c (.rv (.one (.dat (.val (.bool false)))))), none⟩]) .ret) .skip)) (.ghost (.seq (.reg [
    ⟨(some 95), .mov (.t 15), none⟩,
    ⟨(some 96), .mov (.t 1), none⟩,
    ⟨(some 97), .mov (.t 2), none⟩,
    ⟨(some 98), .mov (.t 3), none⟩,
    ⟨(some 99), .call (.c (.rv (.one (.fn 14 [])))) [(.t 95), (.t 96), (.t 97), (.t 98)], none⟩,
    ⟨(some 94), .mov (.t 99), none⟩,
    ⟨(some 100), .ext (.t 94) 0, none⟩,
    ⟨(some 101), .ext (.t 94) 1, none⟩,
    ⟨(some 16), .mov (.t 100), none⟩,
    ⟨(some 18), .mov (.t 101), none⟩]) (.seq (.reg [
    ⟨(some 103), .mov (.t 15), none⟩,
    ⟨(some 104), .mov (.t 1), none⟩,
    ⟨(some 105), .mov (.t 2), none⟩,
    ⟨(some 106), .mov (.t 3), none⟩,
    ⟨(some 107), .call (.c (.rv (.one (.fn 15 [])))) [(.t 103), (.t 104), (.t 105), (.t 106)], none⟩,
    ⟨(some 102), .mov (.t 107), none⟩,
    ⟨(some 108), .ext (.t 102) 0, none⟩,
    ⟨(some 109), .ext (.t 102) 1, none⟩,
    ⟨(some 19), .mov (.t 108), none⟩,
    ⟨(some 21), .mov (.t 109), none⟩]) (.seq (.seq (.reg [
    ⟨(some 110), .mov (.t 18), none⟩,
    ⟨(some 111), .mov (.t 21), none⟩,
    ⟨(some 112), .bin .neq (.t 110) (.t 111), none⟩,
    ⟨(some 113), .mov (.t 112), none⟩,
    ⟨(some 114), .mov (.t 16), (some (113, false))⟩,
    ⟨(some 115), .mov (.t 19), (some (113, false))⟩,
    ⟨(some 116), .call (.c (.rv (.one (.fn 7 [])))) [(.t 114), (.t 115)], (some (113, false))⟩,
    ⟨(some 117), .un .not (.t 116), (some (113, false))⟩,
    ⟨(some 118), .pick (.t 113) (.c (.rv (.one (.dat (.val (.bool true)))))) (.t 117), none⟩]) (.cond (.t 118) (.seq (.reg [
    ⟨(some 14), .mov (.c (.rv (.one (.dat (.val (.bool false)))))), none⟩]) .ret) .skip)) (.ghost (.seq (.reg [
    ⟨(some 120), .mov (.t 15), none⟩,
    ⟨(some 121), .mov (.t 1), none⟩,
    ⟨(some 122), .mov (.t 2), none⟩,
    ⟨(some 123), .call (.c (.rv (.one (.fn 16 [])))) [(.t 120), (.t 121), (.t 122)], none⟩,
    ⟨(some 119), .mov (.t 123), none⟩,
    ⟨(some 124), .ext (.t 119) 0, none⟩,
    ⟨(some 125), .ext (.t 119) 1, none⟩,
    ⟨(some 126), .ext (.t 119) 2, none⟩,
    ⟨(some 16), .mov (.t 124), none⟩,
    ⟨(some 17), .mov (.t 125), none⟩,
    ⟨(some 18), .mov (.t 126), none⟩]) (.seq (.reg [
    ⟨(some 128), .mov (.t 15), none⟩,
    ⟨(some 129), .mov (.t 1), none⟩,
    ⟨(some 130), .mov (.t 2), none⟩,
    ⟨(some 131), .call (.c (.rv (.one (.fn 17 [])))) [(.t 128), (.t 129), (.t 130)], none⟩,
    ⟨(some 127), .mov (.t 131), none⟩,
    ⟨(some 132), .ext (.t 127) 0, none⟩,
    ⟨(some 133), .ext (.t 127) 1, none⟩,
    ⟨(some 134), .ext (.t 127) 2, none⟩,
    ⟨(some 19), .mov (.t 132), none⟩,
    ⟨(some 20), .mov (.t 133), none⟩,
    ⟨(some 21), .mov (.t 134), none⟩]) (.seq (.seq (.reg [
    ⟨(some 135), .mov (.t 18), none⟩,
    ⟨(some 136), .mov (.t 21), none⟩,
    ⟨(some 137), .bin .neq (.t 135) (.t 136), none⟩,
    ⟨(some 138), .mov (.t 137), none⟩,
    ⟨(some 139), .mov (.t 17), (some (138, false))⟩,
    ⟨(some 140), .mov (.t 20), (some (138, false))⟩,
    ⟨(some 141), .bin .neq (.t 139) (.t 140), (some (138, false))⟩,
    ⟨(some 142), .pick (.t 138) (.c (.rv (.one (.dat (.val (.bool true)))))) (.t 141), none⟩,
    ⟨(some 143), .mov (.t 142), none⟩,
    ⟨(some 144), .mov (.t 16), (some (143, false))⟩,
    ⟨(some 145), .mov (.t 19), (some (143, false))⟩,
    ⟨(some 146), .call (.c (.rv (.one (.fn 7 [])))) [(.t 144), (.t 145)], (some (143, false))⟩,
    ⟨(some 147), .un .not (.t 146), (some (143, false))⟩,
    ⟨(some 148), .pick (.t 143) (.c (.rv (.one (.dat (.val (.bool true)))))) (.t 147), none⟩]) (.cond (.t 148) (.seq (.reg [
    ⟨(some 14), .mov (.c (.rv (.one (.dat (.val (.bool false)))))), none⟩]) .ret) .skip)) (.seq (.seq (.reg [
    ⟨(some 149), .mov (.t 15), none⟩,
    ⟨(some 150), .len 1 (.t 149), none⟩,
    ⟨(some 151), .mov (.c (.rv (.one (.dat (.val (.int .i64 (0))))))), none⟩]) (.block 0 (.loop (.seq (.reg [
    ⟨(some 152), .bin .lss (.t 151) (.t 150), none⟩]) (.seq (.cond (.t 152) .skip (.exit 0)) (.seq (.block 1 (.seq (.reg [
    ⟨(some 153), .idx 9 (.t 149) (.t 151), none⟩,
    ⟨(some 154), .load true 9 (.t 153), none⟩,
    ⟨(some 23), .alloc [(.dat (.val (.int .i64 (0)))), .esl, .esl, (.dat (.val (.string ⟨#[]⟩))), (.dat (.val (.int .i64 (0)))), .esl, (.dat (.val (.int .i64 (0)))), (.dat (.val (.int .i64 (0)))), (.dat (.val (.int .i64 (0))))], none⟩,
    ⟨none, .store 9 (.t 23) (.t 154), none⟩]) (.seq (.reg [
    ⟨(some 156), .load true 9 (.t 23), none⟩,
    ⟨(some 157), .mov (.t 4), none⟩,
    ⟨(some 158), .mov (.t 5), none⟩,
    ⟨(some 159), .call (.c (.rv (.one (.fn 18 [])))) [(.t 156), (.t 157), (.t 158)], none⟩,
    ⟨(some 155), .mov (.t 159), none⟩,
    ⟨(some 160), .ext (.t 155) 0, none⟩,
    ⟨(some 161), .ext (.t 155) 1, none⟩,
    ⟨(some 24), .mov (.t 160), none⟩,
    ⟨(some 25), .mov (.t 161), none⟩]) (.seq (.reg [
    ⟨(some 163), .load true 9 (.t 23), none⟩,
    ⟨(some 164), .mov (.t 4), none⟩,
    ⟨(some 165), .mov (.t 5), none⟩,
    ⟨(some 166), .call (.c (.rv (.one (.fn 19 [])))) [(.t 163), (.t 164), (.t 165)], none⟩,
    ⟨(some 162), .mov (.t 166), none⟩,
    ⟨(some 167), .ext (.t 162) 0, none⟩,
    ⟨(some 168), .ext (.t 162) 1, none⟩,
    ⟨(some 26), .mov (.t 167), none⟩,
    ⟨(some 27), .mov (.t 168), none⟩]) (.seq (.seq (.reg [
    ⟨(some 169), .mov (.t 25), none⟩,
    ⟨(some 170), .mov (.t 27), none⟩,
    ⟨(some 171), .bin .neq (.t 169) (.t 170), none⟩,
    ⟨(some 172), .mov (.t 171), none⟩,
    ⟨(some 173), .mov (.t 24), (some (172, false))⟩,
    ⟨(some 174), .b2s (.t 173), (some (172, false))⟩,
    ⟨(some 175), .mov (.t 26), (some (172, false))⟩,
    ⟨(some 176), .b2s (.t 175), (some (172, false))⟩,
    ⟨(some 177), .bin .neq (.t 174) (.t 176), (some (172, false))⟩,
    ⟨(some 178), .pick (.t 172) (.c (.rv (.one (.dat (.val (.bool true)))))) (.t 177), none⟩]) (.cond (.t 178) (.seq (.reg [
    ⟨(some 14), .mov (.c (.rv (.one (.dat (.val (.bool false)))))), none⟩]) .ret) .skip)) (.seq (.reg [
    ⟨(some 180), .load true 9 (.t 23), none⟩,
    ⟨(some 181), .mov (.t 4), none⟩,
    ⟨(some 182), .mov (.t 6), none⟩,
    ⟨(some 183), .call (.c (.rv (.one (.fn 20 [])))) [(.t 180), (.t 181), (.t 182)], none⟩,
    ⟨(some 179), .mov (.t 183), none⟩,
    ⟨(some 184), .ext (.t 179) 0, none⟩,
    ⟨(some 185), .ext (.t 179) 1, none⟩,
    ⟨(some 28), .alloc [(.dat (.val (.int .i64 (0)))), .esl, .esl, (.dat (.val (.string ⟨#[]⟩))), (.dat (.val (.int .i64 (0)))), .esl, (.dat (.val (.int .i64 (0)))), (.dat (.val (.int .i64 (0)))), (.dat (.val (.int .i64 (0))))], none⟩,
    ⟨none, .store 9 (.t 28) (.t 184), none⟩,
    ⟨(some 25), .mov (.t 185), none⟩]) (.seq (.reg [
    ⟨(some 187), .load true 9 (.t 23), none⟩,
    ⟨(some 188), .mov (.t 4), none⟩,
    ⟨(some 189), .mov (.t 6), none⟩,
    ⟨(some 190), .call (.c (.rv (.one (.fn 21 [])))) [(.t 187), (.t 188), (.t 189)], none⟩,
    ⟨(some 186), .mov (.t 190), none⟩,
    ⟨(some 191), .ext (.t 186) 0, none⟩,
    ⟨(some 192), .ext (.t 186) 1, none⟩,
    ⟨(some 29), .alloc [(.dat (.val (.int .i64 (0)))), .esl, .esl, (.dat (.val (.string ⟨#[]⟩))), (.dat (.val (.int .i64 (0)))), .esl, (.dat (.val (.int .i64 (0)))), (.dat (.val (.int .i64 (0)))), (.dat (.val (.int .i64 (0))))], none⟩,
    ⟨none, .store 9 (.t 29) (.t 191), none⟩,
    ⟨(some 27), .mov (.t 192), none⟩]) (.seq (.reg [
    ⟨(some 193), .load true 9 (.t 23), none⟩,
    ⟨(some 194), .call (.c (.rv (.one (.fn 22 [])))) [(.t 193)], none⟩,
    ⟨(some 30), .mov (.t 194), none⟩]) (.seq (.seq (.reg [
    ⟨(some 195), .mov (.t 25), none⟩,
    ⟨(some 196), .mov (.t 27), none⟩,
    ⟨(some 197), .bin .neq (.t 195) (.t 196), none⟩,
    ⟨(some 198), .mov (.t 197), none⟩,
    ⟨(some 199), .load true 9 (.t 28), (some (198, false))⟩,
    ⟨(some 200), .load true 9 (.t 29), (some (198, false))⟩,
    ⟨(some 201), .call (.c (.rv (.one (.fn 23 [])))) [(.t 199), (.t 200)], (some (198, false))⟩,
    ⟨(some 202), .un .not (.t 201), (some (198, false))⟩,
    ⟨(some 203), .pick (.t 198) (.c (.rv (.one (.dat (.val (.bool true)))))) (.t 202), none⟩,
    ⟨(some 204), .mov (.t 203), none⟩,
    ⟨(some 205), .mov (.t 30), (some (204, false))⟩,
    ⟨(some 206), .len 1 (.t 205), (some (204, false))⟩,
    ⟨(some 207), .fadr 2 (.t 23), (some (204, false))⟩,
    ⟨(some 208), .load false 1 (.t 207), (some (204, false))⟩,
    ⟨(some 209), .len 1 (.t 208), (some (204, false))⟩,
    ⟨(some 210), .bin .neq (.t 206) (.t 209), (some (204, false))⟩,
    ⟨(some 211), .pick (.t 204) (.c (.rv (.one (.dat (.val (.bool true)))))) (.t 210), none⟩]) (.cond (.t 211) (.seq (.reg [
    ⟨(some 14), .mov (.c (.rv (.one (.dat (.val (.bool false)))))), none⟩]) .ret) .skip)) (.seq (.reg [
    ⟨(some 212), .fadr 2 (.t 23), none⟩,
    ⟨(some 213), .load false 1 (.t 212), none⟩,
    ⟨(some 214), .len 1 (.t 213), none⟩,
    ⟨(some 215), .mov (.c (.rv (.one (.dat (.val (.int .i64 (0))))))), none⟩]) (.block 2 (.loop (.seq (.reg [
    ⟨(some 216), .bin .lss (.t 215) (.t 214), none⟩]) (.seq (.cond (.t 216) .skip (.exit 2)) (.seq (.block 3 (.seq (.reg [
    ⟨(some 217), .mov (.t 215), none⟩,
    ⟨(some 218), .idx 2 (.t 213) (.t 215), none⟩,
    ⟨(some 219), .load true 2 (.t 218), none⟩,
    ⟨(some 32), .alloc [(.dat (.val (.string ⟨#[]⟩))), (.dat (.val (.int .i64 (0))))], none⟩,
    ⟨(some 31), .mov (.t 217), none⟩,
    ⟨none, .store 2 (.t 32) (.t 219), none⟩]) (.seq (.draw [
    ⟨(some 220), .mov (.t 30), none⟩,
    ⟨(some 221), .mov (.t 31), none⟩,
    ⟨(some 222), .idx 1 (.t 220) (.t 221), none⟩,
    ⟨(some 223), .load false 1 (.t 222), none⟩,
    ⟨(some 224), .fadr 0 (.t 32), none⟩,
    ⟨(some 225), .load false 1 (.t 224), none⟩,
    ⟨(some 226), .bin .neq (.t 223) (.t 225), none⟩]
    [(.cons 0 none (.cons 1 none (.cons 2 none (.cons 3 none (.cons 4 none (.cons 5 none (.cons 6 none .nil)))))))]) (.cond (.t 226) (.seq (.reg [
    ⟨(some 14), .mov (.c (.rv (.one (.dat (.val (.bool false)))))), none⟩]) .ret) .skip)))) (.reg [
    ⟨(some 227), .bin .add (.t 215) (.c (.rv (.one (.dat (.val (.int .i64 (1))))))), none⟩,
    ⟨(some 215), .mov (.t 227), none⟩])))))))))))))))) (.reg [
    ⟨(some 228), .bin .add (.t 151) (.c (.rv (.one (.dat (.val (.int .i64 (1))))))), none⟩,
    ⟨(some 151), .mov (.t 228), none⟩]))))))) (.seq (.reg [
    ⟨(some 14), .mov (.c (.rv (.one (.dat (.val (.bool true)))))), none⟩]) .ret)))))))))))))))))⟩
/-! StoreTells: the law -/
theorem l3 : lowF Try.prog Try.f3 = some c3.er := by kernel_rfl
def C65 : LC := sndW (sndW (sndW c3.code))
def G65 : LC := unW C65
def C95 : LC := sndW (sndW (sndW G65))
def G95 : LC := unW C95
def C120 : LC := sndW (sndW (sndW G95))
def G120 : LC := unW C120
def E3 : Ex → St → Prop := endK Try.prog c3.res (fun r m => r = vBool true)
theorem nm_get {es : List NE} {k : Nat} (h : k < es.length) : getZ (es.map nmW) (k : Nat) = some [.val (.string es[k].1)] := by
  rw [getZ_nat, List.getElem?_map, List.getElem?_eq_getElem h]
  rfl
set_option maxRecDepth 100000 in
set_option maxHeartbeats 16000000 in
theorem seg120 (l : List Obj) (op : List Opn) (ps : List Prc) (hk : GoodK l op ps) (dir : Int) (t : Pth.Txt) (at' n : Int) (bb : List Int) (hbb : bb.length ≤ 1048576) :
    aw Try.prog 0 G120 E3 ⟨mkE 229 [(1, vInt .i64 dir), (2, Pth.vT t), (4, vInt .i64 at'), (5, vInt .i64 n), (6, slV 1 (byD bb)), (15, objsV l)], []⟩ := by
  have hs := hk.srt
  have hgl := hk.gl
  have hbl : (byD bb).length ≤ 4194304 := by simp [byD]; omega
  refine sremove_ok l hs dir (Pth.bysL t) ?_
  refine rremove_ok l hs dir (Pth.bysL t) ?_
  have hg := sRemove_GL (dir := dir) (name := Pth.bysL t) hgl
  generalize sRemoveS l dir (Pth.bysL t) = R at hg
  obtain ⟨x, i, e⟩ := R
  refine bB_no (by simp) ?_
  refine bB_no (by simp) ?_
  refine sames_ok x hg.1 hg.2 ?_
  refine loop_keep (fun i => i ≤ l.length) [4, 5, 6, 149, 150] (fun i => [(151, vInt .i64 (i : Nat))]) (fun _ => []) (fun i => l.length - i) 0 (Nat.zero_le _) ?_ (fun i hi => ?_)
  · refine View.of 0 [] [] rfl rfl rfl rfl rfl rfl ?_ (.nil _)
    repeat (first | exact .nil | refine .junk ?_ | refine .eq rfl ?_)
  have hi : i ≤ l.length := hi
  refine bB_dec (fun h => ?_) (fun h => ?_)
  · have hlt : i < l.length := by
      have h : (i : Int) < ((l.map Obj.enc).length : Int) := h
      rw [List.length_map] at h
      omega
    refine ok_some (obj_getO hlt) ?_
    have hf := hgl.1.2 _ (List.getElem_mem hlt)
    have ht := hgl.2 _ (List.getElem_mem hlt)
    generalize l[i] = o at hf ht
    obtain ⟨⟨c, hc⟩, ⟨es, he⟩, hq⟩ := id ht
    obtain ⟨kind, data, entries, target, peer, queue, proc, links, up⟩ := o
    have hc : data = byD c := hc
    have he : entries = es.map entD := he
    subst hc he
    have hel : es.length ≤ 4194304 := by have h := hf.2.1; have h : (es.map entD).length ≤ 4194304 := h; rw [List.length_map] at h; exact h
    obtain ⟨D, hD⟩ := readS_byD kind c at' n
    refine readX_ok (Obj.mk kind (byD c) (es.map entD) target peer queue proc links up) hf.1 at' n ?_
    refine rread_ok (Obj.mk kind (byD c) (es.map entD) target peer queue proc links up) c rfl hf.1 at' n ?_
    have hD : (readS (Obj.mk kind (byD c) (es.map entD) target peer queue proc links up).kind (Obj.mk kind (byD c) (es.map entD) target peer queue proc links up).data at' n).1 = byD D := hD
    generalize readS (Obj.mk kind (byD c) (es.map entD) target peer queue proc links up).kind (Obj.mk kind (byD c) (es.map entD) target peer queue proc links up).data at' n = R at hD
    obtain ⟨D1, e1⟩ := R
    have hD : D1 = byD D := hD
    subst hD
    refine bB_no (by simp) ?_
    refine ok_some (numsC_byD D) ?_
    refine ok_some (numsC_byD D) ?_
    refine bB_no (by simp) ?_
    refine write_ok (Obj.mk kind (byD c) (es.map entD) target peer queue proc links up) hf at' (byD bb) hbl ?_
    refine rwrite_ok (Obj.mk kind (byD c) (es.map entD) target peer queue proc links up) hf at' (byD bb) hbl ?_
    have hW := writeS_good (Obj.mk kind (byD c) (es.map entD) target peer queue proc links up) hf ht at' bb
    generalize writeS (Obj.mk kind (byD c) (es.map entD) target peer queue proc links up) at' (byD bb) = W at hW
    obtain ⟨u, e2⟩ := W
    refine names_ok (Obj.mk kind (byD c) (es.map entD) target peer queue proc links up) es rfl hel ?_
    refine bB_no (by simp) ?_
    refine sameo_ok u hW.2 hW.1 ?_
    refine bB_no (by simp) ?_
    refine loop_keep (fun j => j ≤ es.length) [4, 5, 6, 149, 150, 151, 30, 213, 214] (fun j => [(215, vInt .i64 (j : Nat))]) (fun _ => []) (fun j => es.length - j) 0 (Nat.zero_le _) ?_ (fun j hj => ?_)
    · refine View.of 3 [] [] rfl rfl rfl rfl rfl rfl ?_ (.nil _)
      repeat (first | exact .nil | refine .junk ?_ | refine .eq rfl ?_)
    have hj : j ≤ es.length := hj
    refine bB_dec (fun h => ?_) (fun h => ?_)
    · have hjt : j < es.length := by
        have h : (j : Int) < ((es.map entD).length : Int) := h
        rw [List.length_map] at h
        omega
      refine ok_some (ent_get hjt) ?_
      refine ok_some (nm_get hjt) ?_
      refine bB_no (by simp) ?_
      refine ⟨j + 1, hjt, (show es.length - (j + 1) < es.length - j by omega), View.of 1 [] [] rfl rfl rfl rfl rfl rfl ?_ (.nil _)⟩
      repeat (first | exact .nil | refine .junk ?_ | refine .put (.ren (next_i64 (by omega)).symm) ?_ | refine .eq rfl ?_)
    · refine ⟨i + 1, hlt, (show l.length - (i + 1) < l.length - i by omega), View.of 0 [] [] rfl rfl rfl rfl rfl rfl ?_ (.nil _)⟩
      repeat (first | exact .nil | refine .junk ?_ | refine .put (.ren (next_i64 (by have := hgl.1.1; omega)).symm) ?_ | refine .eq rfl ?_)
  · exact rfl
set_option maxRecDepth 100000 in
set_option maxHeartbeats 16000000 in
theorem seg95 (l : List Obj) (op : List Opn) (ps : List Prc) (hk : GoodK l op ps) (dir : Int) (t : Pth.Txt) (ht : t.length ≤ 1048576) (obj at' n : Int) (bb : List Int) (hbb : bb.length ≤ 1048576) :
    aw Try.prog 0 G95 E3 ⟨mkE 229 [(1, vInt .i64 dir), (2, Pth.vT t), (3, vInt .i64 obj), (4, vInt .i64 at'), (5, vInt .i64 n), (6, slV 1 (byD bb)), (15, objsV l)], []⟩ := by
  have hs := hk.srt
  have hgl := hk.gl
  refine senter_ok l hs dir obj (Pth.bysL t) (Pth.nameOk t) (fun h => Pth.name_ok t h) ?_
  refine renter_ok l hk.toE dir (Pth.bysL t) (Pth.nameOk t) (fun h => Pth.rname_ok t (by omega) h) obj ?_
  have hg := sEnter_GL (b := Pth.nameOk t) (dir := dir) (obj := obj) (name := Pth.bysL t) hgl
  generalize sEnterS (Pth.nameOk t) l dir (Pth.bysL t) obj = R at hg
  obtain ⟨x, e⟩ := R
  refine bB_no (by simp) ?_
  refine sames_ok x hg.1 hg.2 ?_
  refine ⟨_, View.of 0 [] [] rfl rfl rfl rfl rfl rfl ?_ (.nil _), seg120 l op ps hk dir t at' n bb hbb⟩
  repeat (first | exact .nil | refine .junk ?_ | refine .eq rfl ?_)
set_option maxRecDepth 100000 in
set_option maxHeartbeats 16000000 in
theorem seg65 (l : List Obj) (op : List Opn) (ps : List Prc) (hk : GoodK l op ps) (dir : Int) (t : Pth.Txt) (ht : t.length ≤ 1048576) (obj at' n : Int) (bb : List Int) (hbb : bb.length ≤ 1048576) :
    aw Try.prog 0 G65 E3 ⟨mkE 229 [(1, vInt .i64 dir), (2, Pth.vT t), (3, vInt .i64 obj), (4, vInt .i64 at'), (5, vInt .i64 n), (6, slV 1 (byD bb)), (15, objsV l)], []⟩ := by
  have hs := hk.srt
  have hgl := hk.gl
  have hf : (fB bb).fit := ⟨by show (byD bb).length ≤ _; simp [byD]; omega, by simp [fB], by simp [fB], fun q hq => by simp [fB] at hq⟩
  have hT : (fB bb).typ := ⟨⟨bb, rfl⟩, ⟨[], rfl⟩, fun q hq => by simp [fB] at hq⟩
  refine acall_le (fB_args bb _) (make_ok l hs.fit (fB bb) ?_)
  refine acall_le (fB_args bb _) (rmake_ok l hs.fit.1 (fB bb) ?_)
  rw [rMake_eq l hk.objs.len]
  have hg := make_GL hgl hk.nz hf hT
  generalize makeS l (fB bb) = R at hg
  obtain ⟨x, i, e⟩ := R
  refine bB_no (by simp) ?_
  refine bB_no (by simp) ?_
  refine sames_ok x hg.1 hg.2 ?_
  refine ⟨_, View.of 0 [] [] rfl rfl rfl rfl rfl rfl ?_ (.nil _), seg95 l op ps hk dir t ht obj at' n bb hbb⟩
  repeat (first | exact .nil | refine .junk ?_ | refine .eq rfl ?_)
set_option maxRecDepth 100000 in
set_option maxHeartbeats 16000000 in
theorem stells_body (b : List Int) (hb : BYb b) (dir : Int) (t : Pth.Txt) (ht : t.length ≤ 1048576) (obj at' n : Int) (bb : List Int) (hbb : bb.length ≤ 1048576) :
    body Try.prog c3 [.rv (.one (.dat (.sl 1 (byD b)))), vInt .i64 dir, Pth.vT t, vInt .i64 obj, vInt .i64 at', vInt .i64 n, slV 1 (byD bb)] [] (fun r m => r = vBool true) := by
  refine build_ok b hb fun l op ps hk => ?_
  have hs := hk.srt
  have hgl := hk.gl
  unfold kernV
  refine own_all l hs.fit ?_
  refine acall_pre (args' := [objsV l, objsV l]) (m' := [.dead, .dead]) (View.of 2 [0, 1] [0] rfl rfl rfl rfl rfl rfl (.put (.rv (.one (.frz (FrzD.rowD (Z := fun k => memN [0] k = true) (ds := l.map Obj.enc) rfl rfl 0 none)))) (.eq rfl .nil)) (.dead (.dead (.nil _)))) ?_
  refine sames_ok l hgl.1 hgl.2 ?_
  refine snew_ok ?_
  refine snew_ok ?_
  refine sfindX_ok l hs dir (Pth.bysL t) ?_
  refine rfindX_ok l hs dir (Pth.bysL t) ?_
  refine bB_no (by simp) ?_
  refine ⟨_, View.of 2 [] [] rfl rfl rfl rfl rfl rfl ?_ (.nil _), seg65 l op ps hk dir t ht obj at' n bb hbb⟩
  repeat (first | exact .nil | refine .junk ?_ | refine .eq rfl ?_)
set_option maxRecDepth 100000 in
theorem stells_ok (b : List Int) (hb : BYb b) (dir : Int) (t : Pth.Txt) (ht : t.length ≤ 1048576) (obj at' n : Int) (bb : List Int) (hbb : bb.length ≤ 1048576) :
    ACall Try.prog 3 [.rv (.one (.dat (.sl 1 (byD b)))), vInt .i64 dir, Pth.vT t, vInt .i64 obj, vInt .i64 at', vInt .i64 n, slV 1 (byD bb)] [] (fun r m => r = vBool true) :=
  acall_body_g Try.func3 l3 rfl (Nat.le_of_ble_eq_true rfl) (stells_body b hb dir t ht obj at' n bb hbb)


end Go.Proofs.Ytmekobkcgajcjaa
