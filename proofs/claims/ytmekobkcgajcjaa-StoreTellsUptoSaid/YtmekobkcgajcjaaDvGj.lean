import Derived.Test.YtmekobkcgajcjaaAmZ2
import Derived.Test.YtmekobkcgajcjaaDvGi
import Derived.Test.YtmekobkcgajcjaaDvGe
import Derived.Test.YtmekobkcgajcjaaAmY
set_option linter.unusedVariables false
set_option linter.unusedSimpArgs false
namespace Go.Proofs.Ytmekobkcgajcjaa
open Go.AM Go.ChangeShapes Go.WideShapes Go.ChangeAt Go.RowKit
/-! StoreBack -/
theorem GoodK.srt {l : List Obj} {op : List Opn} {ps : List Prc} (h : GoodK l op ps) : SrtL l := by
  refine ⟨h.objs.fit, fun o ho => ?_⟩
  obtain ⟨es, h1, h2, h3, _⟩ := (h.en o ho).ex
  have h4 := (h.objs.sm o ho).e
  rw [h1, List.length_map] at h4
  exact ⟨es, h1, h2, by omega, h3⟩
theorem SrtL.snoc {l : List Obj} (h : SrtL l) (hl : l.length < 4194304) {o : Obj} (hf : o.fit) (he : o.entries = []) : SrtL (l ++ [o]) := by
  refine ⟨⟨by rw [List.length_append]; simp; omega, fun x hx => ?_⟩, fun x hx => ?_⟩
  · rcases List.mem_append.1 hx with hx | hx
    · exact h.fit.2 x hx
    · simp at hx; subst hx; exact hf
  · rcases List.mem_append.1 hx with hx | hx
    · obtain ⟨es, h1, h2, h3, h4⟩ := h.en x hx
      exact ⟨es, h1, h2, h3, fun e he => by rw [List.length_append]; have := h4 e he; simp; omega⟩
    · simp at hx; subst hx; exact ⟨[], by rw [he]; rfl, List.Pairwise.nil, by simp, by simp⟩
theorem insS_self (x : NE) : ∀ es : List NE, x ∈ insS x es
  | [] => by simp [insS]
  | e :: r => by
    rw [insS]
    split
    · simp
    · exact List.mem_cons_of_mem _ (insS_self x r)
theorem findS_none {es : List NE} {name : ByteArray} (hpos : ∀ e, e ∈ es → 0 ≤ e.2) (h : ¬ findS es name ≥ 0) : ∀ e, e ∈ es → e.1.toList ≠ name.toList := by
  rcases findS_OK es name with ⟨e, he, _, h2⟩ | ⟨_, h2⟩
  · have := hpos e he
    rw [h2] at h
    omega
  · exact h2
theorem insS_filter {es : List NE} (hs : Srt es) {name : ByteArray} (n : Int) (hne : ∀ e, e ∈ es → e.1.toList ≠ name.toList) : (insS (name, n) es).filter (fun e => decide (e.1.toList ≠ name.toList)) = es := by
  have hb : bsB es name = false := by
    unfold bsB
    cases hg : es[bsI es name]? with
    | none => rfl
    | some e =>
      have := hne e (List.mem_of_getElem? hg)
      have h2 : ¬ cmpB e.1 name = 0 := fun h => this (cmp_zero.1 h)
      simpa using h2
  rw [bs_ins hs hb, List.filter_append, List.filter_cons, if_neg (by simp)]
  rw [List.filter_eq_self.2 (fun e he => by simpa using hne e (List.mem_of_mem_take he)), List.filter_eq_self.2 (fun e he => by simpa using hne e (List.mem_of_mem_drop he)), List.take_append_drop]
theorem sEnter_err {b : Bool} {l : List Obj} {dir obj : Int} {name : ByteArray} (h : (sEnterS b l dir name obj).2 ≠ 0) : (sEnterS b l dir name obj).1 = [] := by
  revert h
  unfold sEnterS
  split
  · split
    · split
      · intro _; rfl
      · unfold entKO
        split
        · intro _; rfl
        split
        · intro _; rfl
        split
        · intro _; rfl
        split
        · intro _; rfl
        split
        · intro _; rfl
        · intro h; exact absurd rfl h
    · intro _; rfl
  · intro _; rfl
theorem sEnter_ok {b : Bool} {l : List Obj} {dir obj : Int} {name : ByteArray} (h : (sEnterS b l dir name obj).2 = 0) : ∃ n p : Nat, dir = n ∧ obj = p ∧ p < l.length ∧ ∃ hn : n < l.length, l[n].kind = 2 ∧ ¬ findS (l[n].entries.map unE) name ≥ 0 ∧ l[n].entries.length < 8 ∧ (sEnterS b l dir name obj).1 = entSO l n p name := by
  have hr := h
  unfold sEnterS at hr
  by_cases h1 : isSO l dir 0 = true
  · rw [if_pos h1] at hr
    by_cases h2 : isSO l obj 0 = true
    · rw [if_pos h2] at hr
      obtain ⟨n, rfl, hn⟩ := is0_yesB h1
      obtain ⟨p, rfl, hp⟩ := is0_yesB h2
      rw [List.length_map] at hn hp
      rw [Int.toNat_natCast, Int.toNat_natCast, List.getElem?_eq_getElem hn] at hr
      simp only [] at hr
      have hR : sEnterS b l n name p = entKO b l[n] (entSO l n p name) name := by
        unfold sEnterS
        rw [if_pos h1, if_pos h2, Int.toNat_natCast, Int.toNat_natCast, List.getElem?_eq_getElem hn]
      unfold entKO at hr
      by_cases a1 : l[n].kind ≠ 2
      · rw [if_pos a1] at hr; cases hr
      rw [if_neg a1] at hr
      by_cases a2 : l[n].links = 0
      · rw [if_pos a2] at hr; cases hr
      rw [if_neg a2] at hr
      by_cases a3 : b = false
      · rw [if_pos a3] at hr; cases hr
      rw [if_neg a3] at hr
      by_cases a4 : findS (l[n].entries.map unE) name ≥ 0
      · rw [if_pos a4] at hr; cases hr
      rw [if_neg a4] at hr
      by_cases a5 : l[n].entries.length ≥ 8
      · rw [if_pos a5] at hr; cases hr
      refine ⟨n, p, rfl, rfl, hp, hn, by simpa using a1, a4, by omega, ?_⟩
      rw [hR, entKO, if_neg a1, if_neg a2, if_neg a3, if_neg a4, if_neg a5]
    · rw [if_neg h2] at hr; cases hr
  · rw [if_neg h1] at hr; cases hr
/-- entered, and removed -/
theorem back_plain {l : List Obj} (hs : SrtL l) {n p : Nat} (hn : n < l.length) (hp : p < l.length) (hnp : p ≠ n) (hk : l[n].kind = 2) (hpk : l[p].kind = 1) (hpl : l[p].links = 0) {name : ByteArray} (hf : ¬ findS (l[n].entries.map unE) name ≥ 0) (h8 : l[n].entries.length < 8) :
    SrtL (entSO l n p name) ∧ sRemoveS (entSO l n p name) n name = (l, (p : Int), 0) ∧ ∃ hn' : n < (entSO l n p name).length, (entSO l n p name)[n].kind = 2 ∧ (entSO l n p name)[n].entries = (insS (name, (p : Int)) (l[n].entries.map unE)).map entD ∧ findS (insS (name, (p : Int)) (l[n].entries.map unE)) name = p := by
  obtain ⟨es, he, hsrt, hesl, hpos⟩ := hs.en _ (List.getElem_mem hn)
  have hun : l[n].entries.map unE = es := by rw [he, unE_map]
  rw [hun] at hf ⊢
  have hne := findS_none (fun e he => (hpos e he).1) hf
  have hi := srt_insS (x := (name, (p : Int))) hsrt hne
  have hfind : findS (insS (name, (p : Int)) es) name = p := findOK_uniq hi (findS_OK _ _) (.inl ⟨_, insS_self _ es, rfl, rfl⟩)
  have hW1 : IntKind.i64.wrap (l[p].links + 1) = 1 := by rw [hpl]; rfl
  have hE : entSO l n p name = (l.set n { l[n] with entries := (insS (name, (p : Int)) es).map entD }).set p { l[p] with links := 1 } := by
    unfold entSO
    rw [List.getElem?_eq_getElem hn]
    simp only []
    rw [List.getElem?_set_ne (fun e => hnp e.symm), List.getElem?_eq_getElem hp]
    simp only []
    rw [hun, hW1, if_neg (by rw [hpk]; decide)]
  have hlen : (entSO l n p name).length = l.length := by rw [hE]; simp
  have hgn : (entSO l n p name)[n]? = some { l[n] with entries := (insS (name, (p : Int)) es).map entD } := by
    rw [hE, List.getElem?_set_ne hnp, List.getElem?_set_self hn]
  have hgp : (entSO l n p name)[p]? = some { l[p] with links := 1 } := by
    rw [hE, List.getElem?_set_self (by simpa using hp)]
  have hn' : n < (entSO l n p name).length := by omega
  refine ⟨⟨⟨by rw [hlen]; exact hs.fit.1, fun o ho => ?_⟩, fun o ho => ?_⟩, ?_, hn', ?_⟩
  · rw [hE] at ho
    rcases List.mem_or_eq_of_mem_set ho with ho | rfl
    · rcases List.mem_or_eq_of_mem_set ho with ho | rfl
      · exact hs.fit.2 o ho
      · have := hs.fit.2 _ (List.getElem_mem hn)
        refine ⟨this.1, ?_, this.2.2⟩
        show ((insS (name, (p : Int)) es).map entD).length ≤ 4194304
        rw [List.length_map, insS_len]
        rw [he, List.length_map] at h8
        omega
    · have := hs.fit.2 _ (List.getElem_mem hp)
      exact ⟨this.1, this.2.1, this.2.2⟩
  · rw [hE] at ho
    rw [hlen]
    rcases List.mem_or_eq_of_mem_set ho with ho | rfl
    · rcases List.mem_or_eq_of_mem_set ho with ho | rfl
      · exact hs.en o ho
      · refine ⟨_, rfl, hi, by rw [insS_len]; rw [he, List.length_map] at h8; omega, fun e he => ?_⟩
        rcases insS_mem he with he | rfl
        · exact hpos e he
        · exact ⟨by show (0 : Int) ≤ (p : Int); omega, by show (p : Int) < _; omega⟩
    · exact hs.en l[p] (List.getElem_mem hp)
  · have hge : (entSO l n p name)[n] = { l[n] with entries := (insS (name, (p : Int)) es).map entD } := by
      rw [List.getElem?_eq_getElem hn'] at hgn
      exact Option.some.inj hgn
    unfold sRemoveS
    rw [if_pos (isSO_yes hn' (by rw [hge]; show l[n].kind ≠ 0; rw [hk]; decide)), Int.toNat_natCast, hgn]
    simp only []
    unfold remKO
    rw [if_neg (by show ¬ l[n].kind ≠ 2; simp [hk])]
    show (if findS (((insS (name, (p : Int)) es).map entD).map unE) name < 0 then _ else _) = _
    rw [unE_map, hfind, if_neg (by omega), Int.toNat_natCast, hgp]
    simp only []
    rw [if_neg (by rintro ⟨h, _⟩; rw [hpk] at h; cases h)]
    have hR : remSO (entSO l n p name) n p name = l := by
      unfold remSO
      rw [hgn]
      simp only []
      rw [unE_map, insS_filter hsrt _ hne, List.getElem?_set_ne (fun e => hnp e.symm), hgp]
      simp only []
      rw [if_neg (by rw [hpk]; decide)]
      have hW0 : IntKind.i64.wrap (1 - 1) = l[p].links := by rw [hpl]; rfl
      rw [hW0, ← he, hE]
      apply List.ext_getElem?
      intro i
      by_cases h1 : p = i
      · subst h1
        rw [List.getElem?_set_self (by simpa using hp), List.getElem?_eq_getElem hp]
      · rw [List.getElem?_set_ne h1]
        by_cases h2 : n = i
        · subst h2
          rw [List.getElem?_set_self (by simpa using hn), List.getElem?_eq_getElem hn]
        · rw [List.getElem?_set_ne h2, List.getElem?_set_ne h1, List.getElem?_set_ne h2]
    rw [hR]
  · have hge : (entSO l n p name)[n] = { l[n] with entries := (insS (name, (p : Int)) es).map entD } := by
      rw [List.getElem?_eq_getElem hn'] at hgn
      exact Option.some.inj hgn
    rw [hge]
    exact ⟨hk, rfl, hfind⟩

def c4 : LF := ⟨69, [.tmp 6], (.seq (.reg [
    ⟨(some 6), .mov (.c (.rv (.one (.dat (.val (.bool false)))))), none⟩]) (.seq (.seq (.reg [
    ⟨(some 14), .call (.c (.rv (.one (.fn 24 [])))) [], none⟩,
    ⟨(some 15), .un .not (.t 14), none⟩]) (.cond (.t 15) (.seq (.reg [
    ⟨(some 6), .mov (.c (.rv (.one (.dat (.val (.bool false)))))), none⟩]) .ret) .skip)) (.seq (.reg [
    ⟨(some 16), .mov (.t 0), none⟩,
    ⟨(some 17), .call (.c (.rv (.one (.fn 6 [])))) [(.t 16)], none⟩,
    ⟨(some 18), .fld false 0 1 (.t 17), none⟩,
    ⟨(some 7), .mov (.t 18), none⟩]) (.seq (.reg [
    ⟨(some 20), .mov (.t 7), none⟩,
    ⟨(some 21), .build [(.dat (.val (.int .i64 (0)))), .esl, .esl, (.dat (.val (.string ⟨#[]⟩))), (.dat (.val (.int .i64 (0)))), .esl, (.dat (.val (.int .i64 (0)))), (.dat (.val (.int .i64 (0)))), (.dat (.val (.int .i64 (0))))] [(0, 1, (.c (.rv (.one (.dat (.val (.int .i64 (1)))))))), (4, 1, (.c (.rv (.one (.dat (.val (.int .i64 (-1)))))))), (6, 1, (.c (.rv (.one (.dat (.val (.int .i64 (-1))))))))], none⟩,
    ⟨(some 22), .call (.c (.rv (.one (.fn 12 [])))) [(.t 20), (.t 21)], none⟩,
    ⟨(some 19), .mov (.t 22), none⟩,
    ⟨(some 23), .ext (.t 19) 0, none⟩,
    ⟨(some 24), .ext (.t 19) 1, none⟩,
    ⟨(some 25), .ext (.t 19) 2, none⟩,
    ⟨(some 8), .mov (.t 23), none⟩,
    ⟨(some 9), .mov (.t 24), none⟩,
    ⟨(some 10), .mov (.t 25), none⟩]) (.seq (.seq (.reg [
    ⟨(some 26), .mov (.t 10), none⟩,
    ⟨(some 27), .bin .neq (.t 26) (.c (.rv (.one (.dat (.val (.int .i64 (0))))))), none⟩]) (.cond (.t 27) (.seq (.reg [
    ⟨(some 6), .mov (.c (.rv (.one (.dat (.val (.bool true)))))), none⟩]) .ret) .skip)) (.seq (.reg [
    ⟨(some 29), .mov (.t 8), none⟩,
    ⟨(some 30), .mov (.t 1), none⟩,
    ⟨(some 31), .mov (.t 2), none⟩,
    ⟨(some 32), .mov (.t 9), none⟩,
    ⟨(some 33), .call (.c (.rv (.one (.fn 14 [])))) [(.t 29), (.t 30), (.t 31), (.t 32)], none⟩,
    ⟨(some 28), .mov (.t 33), none⟩,
    ⟨(some 34), .ext (.t 28) 0, none⟩,
    ⟨(some 35), .ext (.t 28) 1, none⟩,
    ⟨(some 11), .mov (.t 34), none⟩,
    ⟨(some 10), .mov (.t 35), none⟩]) (.seq (.seq (.reg [
    ⟨(some 36), .mov (.t 10), none⟩,
    ⟨(some 37), .bin .neq (.t 36) (.c (.rv (.one (.dat (.val (.int .i64 (0))))))), none⟩]) (.cond (.t 37) (.seq (.reg [
    ⟨(some 38), .mov (.t 11), none⟩,
    ⟨(some 39), .len 1 (.t 38), none⟩,
    ⟨(some 40), .bin .eql (.t 39) (.c (.rv (.one (.dat (.val (.int .i64 (0))))))), none⟩,
    ⟨(some 6), .mov (.t 40), none⟩]) .ret) .skip)) (.seq (.reg [
    ⟨(some 42), .mov (.t 11), none⟩,
    ⟨(some 43), .mov (.t 1), none⟩,
    ⟨(some 44), .mov (.t 2), none⟩,
    ⟨(some 45), .call (.c (.rv (.one (.fn 16 [])))) [(.t 42), (.t 43), (.t 44)], none⟩,
    ⟨(some 41), .mov (.t 45), none⟩,
    ⟨(some 46), .ext (.t 41) 0, none⟩,
    ⟨(some 47), .ext (.t 41) 1, none⟩,
    ⟨(some 48), .ext (.t 41) 2, none⟩,
    ⟨(some 12), .mov (.t 46), none⟩,
    ⟨(some 13), .mov (.t 47), none⟩,
    ⟨(some 10), .mov (.t 48), none⟩]) (.seq (.reg [
    ⟨(some 49), .mov (.t 10), none⟩,
    ⟨(some 50), .bin .eql (.t 49) (.c (.rv (.one (.dat (.val (.int .i64 (0))))))), none⟩,
    ⟨(some 51), .mov (.t 50), none⟩,
    ⟨(some 52), .mov (.t 13), (some (51, true))⟩,
    ⟨(some 53), .mov (.t 9), (some (51, true))⟩,
    ⟨(some 54), .bin .eql (.t 52) (.t 53), (some (51, true))⟩,
    ⟨(some 55), .pick (.t 51) (.t 54) (.c (.rv (.one (.dat (.val (.bool false)))))), none⟩,
    ⟨(some 56), .mov (.t 55), none⟩,
    ⟨(some 57), .mov (.t 11), (some (56, true))⟩,
    ⟨(some 58), .mov (.t 1), (some (56, true))⟩,
    ⟨(some 59), .mov (.t 2), (some (56, true))⟩,
    ⟨(some 60), .call (.c (.rv (.one (.fn 10 [])))) [(.t 57), (.t 58), (.t 59)], (some (56, true))⟩,
    ⟨(some 61), .mov (.t 9), (some (56, true))⟩,
    ⟨(some 62), .bin .eql (.t 60) (.t 61), (some (56, true))⟩,
    ⟨(some 63), .pick (.t 56) (.t 62) (.c (.rv (.one (.dat (.val (.bool false)))))), none⟩,
    ⟨(some 64), .mov (.t 63), none⟩,
    ⟨(some 65), .mov (.t 12), (some (64, true))⟩,
    ⟨(some 66), .mov (.t 8), (some (64, true))⟩,
    ⟨(some 67), .call (.c (.rv (.one (.fn 7 [])))) [(.t 65), (.t 66)], (some (64, true))⟩,
    ⟨(some 68), .pick (.t 64) (.t 67) (.c (.rv (.one (.dat (.val (.bool false)))))), none⟩,
    ⟨(some 6), .mov (.t 68), none⟩]) .ret)))))))))⟩
/-! StoreBack: the law -/
theorem l4 : lowF Try.prog Try.f4 = some c4 := by kernel_rfl
def fO : Obj := ⟨1, [], [], ⟨#[]⟩, -1, [], -1, 0, 0⟩
theorem fO_args (x : CV) : ArgsL [x, .rv (.agg [.dat (.val (.int .i64 1)), .esl, .esl, .dat (.val (.string ⟨#[]⟩)), .dat (.val (.int .i64 (-1))), .esl, .dat (.val (.int .i64 (-1))), .dat (.val (.int .i64 0)), .dat (.val (.int .i64 0))])] [x, fO.cv] :=
  .same _ (.agg (.cons (.same _) (.cons (.esl 1) (.cons (.esl 2) (.cons (.same _) (.cons (.same _) (.cons (.esl 4) (.cons (.same _) (.cons (.same _) (.cons (.same _) .nil))))))))) .nil)
theorem make_nz {l : List Obj} (hz : ∀ o, o ∈ l → o.kind ≠ 0) (o : Obj) : makeS l o = if l.length ≥ 40 then ([], 0, 15) else (l ++ [o], (l.length : Int), 0) := by
  unfold makeS
  rw [List.findIdx?_eq_none_iff.2 fun x hx => by simpa using hz x hx]
theorem fO_fit : fO.fit := ⟨by simp [fO], by simp [fO], by simp [fO], fun q hq => by simp [fO] at hq⟩
theorem fO_typ : fO.typ := ⟨⟨[], rfl⟩, ⟨[], rfl⟩, fun q hq => by simp [fO] at hq⟩
set_option maxRecDepth 100000 in
set_option maxHeartbeats 8000000 in
theorem sback_body (b : List Int) (hb : BYb b) (dir : Int) (t : Pth.Txt) : body Try.prog c4 [.rv (.one (.dat (.sl 1 (byD b)))), vInt .i64 dir, Pth.vT t] [] (fun r m => r = vBool true) := by
  refine alive5_ok ?_
  refine build_ok b hb fun l op ps hk => ?_
  have hs := hk.srt
  have hl := hk.objs.len
  have hnz := hk.nz
  have htyp : ∀ o, o ∈ l ++ [fO] → o.typ := fun o ho => by
    rcases List.mem_append.1 ho with ho | ho
    · exact (hk.objs.sm o ho).t
    · simp at ho; subst ho; exact fO_typ
  unfold kernV
  refine acall_le (fO_args _) (make_ok l hs.fit fO ?_)
  rw [make_nz hnz]
  by_cases h40 : l.length ≥ 40
  · rw [if_pos h40]
    exact rfl
  rw [if_neg h40]
  have hs' := hs.snoc (by omega) fO_fit rfl
  refine senter_ok (l ++ [fO]) hs' dir (l.length : Nat) (Pth.bysL t) (Pth.nameOk t) (fun h => Pth.name_ok t h) ?_
  have he1 := sEnter_err (b := Pth.nameOk t) (l := l ++ [fO]) (dir := dir) (obj := (l.length : Nat)) (name := Pth.bysL t)
  have he2 := sEnter_ok (b := Pth.nameOk t) (l := l ++ [fO]) (dir := dir) (obj := (l.length : Nat)) (name := Pth.bysL t)
  generalize sEnterS (Pth.nameOk t) (l ++ [fO]) dir (Pth.bysL t) (l.length : Nat) = R at he1 he2
  refine bB_bne (fun h1 => ?_) (fun h1 => ?_)
  · rw [he1 h1]
    exact rfl
  have h1 : R.2 = 0 := by simpa using h1
  obtain ⟨n, p, rfl, hp, hpl, hn, hkn, hf, h8, hR⟩ := he2 h1
  have hp : p = l.length := by omega
  subst hp
  have hgp : (l ++ [fO])[l.length] = fO := by simp
  have hnp : l.length ≠ n := fun e => by
    subst e
    rw [hgp] at hkn
    cases hkn
  obtain ⟨b1, b2, hn', b3, b4, b5⟩ := back_plain hs' hn hpl hnp hkn (by rw [hgp]; rfl) (by rw [hgp]; rfl) hf h8
  rw [hR]
  refine sremove_ok _ b1 (n : Nat) (Pth.bysL t) ?_
  rw [b2]
  refine bB_yes (by simp) ?_
  have hsz := (b1.fit.2 _ (List.getElem_mem hn')).2.1
  rw [b4, List.length_map] at hsz
  refine sfind_ok _ n hn' b3 _ b4 (by omega) (Pth.bysL t) ?_
  obtain ⟨es, q1, q2, _, _⟩ := b1.en _ (List.getElem_mem hn')
  have q3 : es = insS (Pth.bysL t, (l.length : Int)) ((l ++ [fO])[n].entries.map unE) := entD_inj (q1.symm.trans b4)
  have hfw : findW (entSO (l ++ [fO]) n l.length (Pth.bysL t)) (insS (Pth.bysL t, (l.length : Int)) ((l ++ [fO])[n].entries.map unE)) n (Pth.bysL t) = (l.length : Nat) := by
    exact (find_uniq (q3 ▸ q2) (Pth.bysL t)).trans b5
  rw [hfw]
  refine bB_yes (by simp) ?_
  refine sames_ok (l ++ [fO]) hs'.fit htyp ?_
  exact rfl
set_option maxRecDepth 100000 in
theorem sback_ok (b : List Int) (hb : BYb b) (dir : Int) (t : Pth.Txt) : ACall Try.prog 4 [.rv (.one (.dat (.sl 1 (byD b)))), vInt .i64 dir, Pth.vT t] [] (fun r m => r = vBool true) :=
  acall_body Try.func4 l4 rfl (Nat.le_of_ble_eq_true rfl) (sback_body b hb dir t)


end Go.Proofs.Ytmekobkcgajcjaa
