import Derived.Test.YtppecaflkpklfaaDoorAmZ2
import Derived.Test.YtppecaflkpklfaaDoorDvGw
import Derived.Test.YtppecaflkpklfaaDoorAmY
import Derived.Test.YtppecaflkpklfaaDoorDvGx
set_option linter.unusedVariables false
set_option linter.unusedSimpArgs false
namespace Go.Proofs.YtppecaflkpklfaaDoor
open Go.AM Go.ChangeShapes Go.WideShapes Go.ChangeAt Go.RowKit
def c19 : LF := ⟨43, [.tmp 0], (.seq (.reg [
    ⟨(some 0), .mov (.c (.rv (.one .esl))), none⟩]) (.seq (.reg [
    ⟨(some 7), .build [(.dat (.val (.int .i64 (0)))), .esl, .esl, (.dat (.val (.string ⟨#[]⟩))), (.dat (.val (.int .i64 (0)))), .esl, (.dat (.val (.int .i64 (0)))), (.dat (.val (.int .i64 (0)))), (.dat (.val (.int .i64 (0))))] [(0, 1, (.c (.rv (.one (.dat (.val (.int .i64 (2)))))))), (7, 1, (.c (.rv (.one (.dat (.val (.int .i64 (1)))))))), (4, 1, (.c (.rv (.one (.dat (.val (.int .i64 (-1)))))))), (6, 1, (.c (.rv (.one (.dat (.val (.int .i64 (-1))))))))], none⟩,
    ⟨(some 8), .bsl 9 [(.dat (.val (.int .i64 (0)))), .esl, .esl, (.dat (.val (.string ⟨#[]⟩))), (.dat (.val (.int .i64 (0)))), .esl, (.dat (.val (.int .i64 (0)))), (.dat (.val (.int .i64 (0)))), (.dat (.val (.int .i64 (0))))] 1 [(0, (.t 7))], none⟩,
    ⟨(some 1), .mov (.t 8), none⟩]) (.seq (.seq (.reg [
    ⟨(some 9), .build [(.dat (.val (.int .i64 (0)))), .esl, .esl, (.dat (.val (.string ⟨#[]⟩))), (.dat (.val (.int .i64 (0)))), .esl, (.dat (.val (.int .i64 (0)))), (.dat (.val (.int .i64 (0)))), (.dat (.val (.int .i64 (0))))] [(0, 1, (.c (.rv (.one (.dat (.val (.int .i64 (2))))))))], none⟩,
    ⟨(some 10), .build [(.dat (.val (.int .i64 (0)))), .esl, .esl, (.dat (.val (.string ⟨#[]⟩))), (.dat (.val (.int .i64 (0)))), .esl, (.dat (.val (.int .i64 (0)))), (.dat (.val (.int .i64 (0)))), (.dat (.val (.int .i64 (0))))] [(0, 1, (.c (.rv (.one (.dat (.val (.int .i64 (2))))))))], none⟩,
    ⟨(some 11), .build [(.dat (.val (.int .i64 (0)))), .esl, .esl, (.dat (.val (.string ⟨#[]⟩))), (.dat (.val (.int .i64 (0)))), .esl, (.dat (.val (.int .i64 (0)))), (.dat (.val (.int .i64 (0)))), (.dat (.val (.int .i64 (0))))] [(0, 1, (.c (.rv (.one (.dat (.val (.int .i64 (1))))))))], none⟩,
    ⟨(some 12), .build [(.dat (.val (.int .i64 (0)))), .esl, .esl, (.dat (.val (.string ⟨#[]⟩))), (.dat (.val (.int .i64 (0)))), .esl, (.dat (.val (.int .i64 (0)))), (.dat (.val (.int .i64 (0)))), (.dat (.val (.int .i64 (0))))] [(0, 1, (.c (.rv (.one (.dat (.val (.int .i64 (3)))))))), (3, 1, (.c (.rv (.one (.dat (.val (.string ⟨#[46, 46, 47, 120]⟩)))))))], none⟩,
    ⟨(some 13), .bsl 9 [(.dat (.val (.int .i64 (0)))), .esl, .esl, (.dat (.val (.string ⟨#[]⟩))), (.dat (.val (.int .i64 (0)))), .esl, (.dat (.val (.int .i64 (0)))), (.dat (.val (.int .i64 (0)))), (.dat (.val (.int .i64 (0))))] 4 [(0, (.t 9)), (1, (.t 10)), (2, (.t 11)), (3, (.t 12))], none⟩,
    ⟨(some 14), .len 1 (.t 13), none⟩,
    ⟨(some 15), .mov (.c (.rv (.one (.dat (.val (.int .i64 (0))))))), none⟩]) (.block 0 (.loop (.seq (.reg [
    ⟨(some 16), .bin .lss (.t 15) (.t 14), none⟩]) (.seq (.cond (.t 16) .skip (.exit 0)) (.seq (.block 1 (.seq (.reg [
    ⟨(some 17), .mov (.t 15), none⟩,
    ⟨(some 18), .idx 9 (.t 13) (.t 15), none⟩,
    ⟨(some 19), .load true 9 (.t 18), none⟩,
    ⟨(some 3), .alloc [(.dat (.val (.int .i64 (0)))), .esl, .esl, (.dat (.val (.string ⟨#[]⟩))), (.dat (.val (.int .i64 (0)))), .esl, (.dat (.val (.int .i64 (0)))), (.dat (.val (.int .i64 (0)))), (.dat (.val (.int .i64 (0))))], none⟩,
    ⟨(some 2), .mov (.t 17), none⟩,
    ⟨none, .store 9 (.t 3) (.t 19), none⟩]) (.seq (.reg [
    ⟨(some 21), .mov (.t 1), none⟩,
    ⟨(some 22), .load true 9 (.t 3), none⟩,
    ⟨(some 23), .call (.c (.rv (.one (.fn 18 [])))) [(.t 21), (.t 22)], none⟩,
    ⟨(some 20), .mov (.t 23), none⟩,
    ⟨(some 24), .ext (.t 20) 0, none⟩,
    ⟨(some 25), .ext (.t 20) 1, none⟩,
    ⟨(some 26), .ext (.t 20) 2, none⟩,
    ⟨(some 4), .mov (.t 24), none⟩,
    ⟨(some 5), .mov (.t 25), none⟩,
    ⟨(some 6), .mov (.t 26), none⟩]) (.draw [
    ⟨(some 28), .mov (.t 4), none⟩,
    ⟨(some 29), .bsl 1 [(.dat (.val (.int .i64 (0))))] 4 [(0, (.c (.rv (.one (.dat (.val (.int .i64 (0)))))))), (1, (.c (.rv (.one (.dat (.val (.int .i64 (1)))))))), (2, (.c (.rv (.one (.dat (.val (.int .i64 (2)))))))), (3, (.c (.rv (.one (.dat (.val (.int .i64 (1))))))))], none⟩,
    ⟨(some 30), .mov (.t 2), none⟩,
    ⟨(some 31), .idx 1 (.t 29) (.t 30), none⟩,
    ⟨(some 32), .load false 1 (.t 31), none⟩,
    ⟨(some 33), .bsl 1 [(.dat (.val (.string ⟨#[]⟩)))] 4 [(0, (.c (.rv (.one (.dat (.val (.string ⟨#[97]⟩))))))), (1, (.c (.rv (.one (.dat (.val (.string ⟨#[98]⟩))))))), (2, (.c (.rv (.one (.dat (.val (.string ⟨#[102]⟩))))))), (3, (.c (.rv (.one (.dat (.val (.string ⟨#[108]⟩)))))))], none⟩,
    ⟨(some 34), .mov (.t 2), none⟩,
    ⟨(some 35), .idx 1 (.t 33) (.t 34), none⟩,
    ⟨(some 36), .load false 1 (.t 35), none⟩,
    ⟨(some 37), .mov (.t 5), none⟩,
    ⟨(some 38), .call (.c (.rv (.one (.fn 20 [])))) [(.t 28), (.t 32), (.t 36), (.t 37)], none⟩,
    ⟨(some 27), .mov (.t 38), none⟩,
    ⟨(some 39), .ext (.t 27) 0, none⟩,
    ⟨(some 40), .ext (.t 27) 1, none⟩,
    ⟨(some 1), .mov (.t 39), none⟩]
    [(.cons 0 none (.cons 2 none (.cons 6 none (.cons 9 none (.alt (.cons 1 (some []) (.cons 3 none (.cons 4 none (.cons 5 (some [4, 3]) (.cons 7 none (.cons 8 none (.cons 10 (some []) (.cons 11 none (.cons 12 none (.cons 13 none (.cons 14 none .nil))))))))))) (.cons 5 (some []) (.cons 7 none (.cons 8 none (.cons 1 (some [8, 7]) (.cons 3 none (.cons 4 none (.cons 10 (some []) (.cons 11 none (.cons 12 none (.cons 13 none (.cons 14 none .nil))))))))))))))))])))) (.reg [
    ⟨(some 41), .bin .add (.t 15) (.c (.rv (.one (.dat (.val (.int .i64 (1))))))), none⟩,
    ⟨(some 15), .mov (.t 41), none⟩]))))))) (.seq (.reg [
    ⟨(some 42), .mov (.t 1), none⟩,
    ⟨(some 0), .mov (.t 42), none⟩]) .ret))))⟩
inductive CcsFz (m : Mem) (Z : Nat → Prop) (p : Option Nat) : List CC → List Dt → Prop
  | nil : CcsFz m Z p [] []
  | cons {c : CC} {d : Dt} {r : List CC} {r' : List Dt} (h : FrzD m Z p c d) (hr : CcsFz m Z p r r') : CcsFz m Z p (c :: r) (d :: r')
theorem CcsFz.len {m : Mem} {Z : Nat → Prop} {p : Option Nat} {a : List CC} {b : List Dt} (h : CcsFz m Z p a b) : a.length = b.length := by induction h <;> simp [*]
theorem CcsFz.get {m : Mem} {Z : Nat → Prop} {p : Option Nat} {a : List CC} {b : List Dt} (h : CcsFz m Z p a b) : ∀ (i : Nat) c d, a[i]? = some c → b[i]? = some d → FrzD m Z p c d := by
  induction h with
  | nil => intro i c d h; simp at h
  | cons h hr ih =>
    intro i c d h1 h2
    cases i with
    | zero => simp at h1 h2; subst h1 h2; exact h
    | succ i => exact ih i c d (by simpa using h1) (by simpa using h2)
inductive RowsFz (m : Mem) (Z : Nat → Prop) (p : Option Nat) : List (List CC) → List (List Dt) → Prop
  | nil : RowsFz m Z p [] []
  | cons {c : List CC} {d : List Dt} {r : List (List CC)} {r' : List (List Dt)} (h : CcsFz m Z p c d) (hr : RowsFz m Z p r r') : RowsFz m Z p (c :: r) (d :: r')
theorem RowsFz.len {m : Mem} {Z : Nat → Prop} {p : Option Nat} {a : List (List CC)} {b : List (List Dt)} (h : RowsFz m Z p a b) : a.length = b.length := by induction h <;> simp [*]
theorem RowsFz.get {m : Mem} {Z : Nat → Prop} {p : Option Nat} {a : List (List CC)} {b : List (List Dt)} (h : RowsFz m Z p a b) : ∀ (i : Nat) c d, a[i]? = some c → b[i]? = some d → CcsFz m Z p c d := by
  induction h with
  | nil => intro i c d h; simp at h
  | cons h hr ih =>
    intro i c d h1 h2
    cases i with
    | zero => simp at h1 h2; subst h1 h2; exact h
    | succ i => exact ih i c d (by simpa using h1) (by simpa using h2)
theorem RowsFz.frz {m : Mem} {Z : Nat → Prop} {p : Option Nat} {id esz : Nat} {elems : List (List CC)} {ds : List (List Dt)} (h : RowsFz m Z (some id) elems ds) (hz : Z id) (hm : m[id]? = some (.row esz elems)) : FrzD m Z p (.row id esz 0 none) (.sl esz ds) :=
  FrzD.row id esz 0 none elems ds hz hm h.len (fun i cs es h1 h2 => (h.get i cs es h1 h2).len) (fun i cs es j c d h1 h2 h3 h4 => (h.get i cs es h1 h2).get j c d h3 h4)
/-! the tree of the closed fact -/
theorem l19 : lowF Tryd.prog Tryd.f19 = some c19 := by kernel_rfl
def enT (e : Pth.Txt × Int) : List Dt := entD (Pth.bysL e.1, e.2)
def obT (kind : Int) (es : List (Pth.Txt × Int)) (t : Pth.Txt) (peer proc links up : Int) : Ob := ⟨kind, [], (es.map fun e => ((Pth.bysL e.1, e.2) : NE)).map entD, Pth.bysL t, peer, noD, proc, links, up⟩
theorem obT_ents (kind : Int) (es : List (Pth.Txt × Int)) (t : Pth.Txt) (peer proc links up : Int) : (obT kind es t peer proc links up).entries.map unE = es.map fun e => ((Pth.bysL e.1, e.2) : NE) := unE_map _
/-- found by text -/
def fndT (es : List (Pth.Txt × Int)) (w : Pth.Txt) : Int := match es.find? (fun e => decide (e.1 = w)) with
  | some e => e.2
  | none => -1
theorem findT (es : List (Pth.Txt × Int)) (w : Pth.Txt) : findS (es.map fun e => ((Pth.bysL e.1, e.2) : NE)) (Pth.bysL w) = fndT es w := by
  unfold findS fndT
  induction es with
  | nil => rfl
  | cons e r ih =>
    rw [List.map_cons, List.find?_cons, List.find?_cons]
    simp only [Pth.bysL_toList] at ih ⊢
    by_cases h : e.1 = w
    · simp [h]
    · simp only [h, decide_false]
      exact ih
def gtT (a b : Pth.Txt) : Bool := !(Op.bytesLess a b || a == b)
def insT (x : Pth.Txt × Int) : List (Pth.Txt × Int) → List (Pth.Txt × Int)
  | [] => [x]
  | e :: r => if gtT e.1 x.1 = true then x :: e :: r else e :: insT x r
theorem insT_eq (x : Pth.Txt × Int) : ∀ es : List (Pth.Txt × Int), insS ((Pth.bysL x.1, x.2) : NE) (es.map fun e => ((Pth.bysL e.1, e.2) : NE)) = (insT x es).map fun e => ((Pth.bysL e.1, e.2) : NE)
  | [] => rfl
  | e :: r => by
    rw [List.map_cons, insS, insT]
    have : gtN (Pth.bysL e.1) (Pth.bysL x.1) = gtT e.1 x.1 := by rw [gtN, gtT, Pth.bysL_toList, Pth.bysL_toList]
    rw [this, insT_eq x r]
    split <;> rfl
def srtT : List (Pth.Txt × Int) → Bool
  | [] => true
  | e :: r => r.all (fun y => Op.bytesLess e.1 y.1) && srtT r
theorem srtT_ok : ∀ {es : List (Pth.Txt × Int)}, srtT es = true → Srt (es.map fun e => ((Pth.bysL e.1, e.2) : NE))
  | [], _ => List.Pairwise.nil
  | e :: r, h => by
    rw [srtT, Bool.and_eq_true, List.all_eq_true] at h
    refine List.pairwise_cons.2 ⟨fun y hy => ?_, srtT_ok h.2⟩
    obtain ⟨z, hz, rfl⟩ := List.mem_map.1 hy
    show ltN (Pth.bysL e.1) (Pth.bysL z.1)
    rw [ltN, Pth.bysL_toList, Pth.bysL_toList]
    exact h.1 z hz
/-- what stands in a list, by text -/
structure OT where
  kind : Int
  es : List (Pth.Txt × Int)
  t : Pth.Txt
  peer : Int
  proc : Int
  links : Int
  up : Int
def OT.ob (x : OT) : Ob := obT x.kind x.es x.t x.peer x.proc x.links x.up
def okOT (n : Nat) (x : OT) : Bool := srtT x.es && x.es.all (fun e => decide (0 ≤ e.2) && decide (e.2 < (n : Int))) && (decide (x.kind = 2) || x.es.isEmpty) && decide (x.es.length ≤ 8) && decide (x.kind ≠ 0) && (decide (x.peer = -1) || (decide (0 ≤ x.peer) && decide (x.peer < (n : Int)))) && decide (0 ≤ x.up) && decide (x.up < (n : Int))
def okL (l : List OT) : Bool := decide (l.length ≤ 40) && (match l[0]? with | some x => decide (x.kind = 2) | none => false) && l.all (okOT l.length)
theorem okL_at {l : List OT} (h : okL l = true) (x : OT) (hx : x ∈ l) : okOT l.length x = true := by
  simp only [okL, Bool.and_eq_true, List.all_eq_true] at h
  exact h.2 x hx
theorem okL_good {l : List OT} (h : okL l = true) : GoodM (l.map OT.ob) ∧ LkOK (l.map OT.ob) := by
  have hl : l.length ≤ 40 := by
    simp only [okL, Bool.and_eq_true, decide_eq_true_eq] at h
    exact h.1.1
  have hr : ∃ x, l[0]? = some x ∧ x.kind = 2 := by
    simp only [okL, Bool.and_eq_true] at h
    have h2 := h.1.2
    cases h0 : l[0]? with
    | none => rw [h0] at h2; cases h2
    | some x => rw [h0] at h2; exact ⟨x, rfl, by simpa using h2⟩
  have hx : ∀ x, x ∈ l → srtT x.es = true ∧ (∀ e, e ∈ x.es → 0 ≤ e.2 ∧ e.2 < (l.length : Int)) ∧ (x.kind = 2 ∨ x.es = []) ∧ x.es.length ≤ 8 ∧ x.kind ≠ 0 ∧ (x.peer = -1 ∨ 0 ≤ x.peer ∧ x.peer < l.length) ∧ 0 ≤ x.up ∧ x.up < l.length := fun x hx => by
    have := okL_at h x hx
    simp only [okOT, Bool.and_eq_true, Bool.or_eq_true, decide_eq_true_eq, List.all_eq_true, List.isEmpty_iff] at this
    obtain ⟨⟨⟨⟨⟨⟨⟨h1, h2⟩, h3⟩, h4⟩, h5⟩, h6⟩, h7⟩, h8⟩ := this
    exact ⟨h1, h2, h3, h4, h5, h6, h7, h8⟩
  have hE : ∀ x, x ∈ l → EntOK (l.map OT.ob).length x.ob.kind x.ob.entries := fun x hm => by
    obtain ⟨h1, h2, h3, _⟩ := hx x hm
    refine ⟨_, rfl, srtT_ok h1, fun e he => ?_, fun hk => ?_⟩
    · obtain ⟨z, hz, rfl⟩ := List.mem_map.1 he
      rw [List.length_map]
      exact h2 z hz
    · rcases h3 with h3 | h3
      · exact absurd h3 hk
      · rw [h3]; rfl
  have hlen : ∀ x, x ∈ l → x.ob.entries.length ≤ 8 := fun x hm => by
    have := (hx x hm).2.2.2.1
    show ((x.es.map fun e => ((Pth.bysL e.1, e.2) : NE)).map entD).length ≤ 8
    simpa using this
  obtain ⟨r, hr0, hr2⟩ := hr
  refine ⟨⟨by simpa using hl, fun o ho => ?_, ⟨r.ob, by rw [List.getElem?_map, hr0]; rfl, hr2⟩, fun o ho => ?_, fun o ho => ?_, fun o ho => ?_⟩, ⟨by rw [List.length_map]; omega, by rw [List.length_map]; exact (List.getElem?_eq_some_iff.1 hr0).1, fun o ho => ?_, fun o ho => ?_, fun o ho => ?_⟩⟩
  all_goals obtain ⟨x, hm, rfl⟩ := List.mem_map.1 ho
  · exact ⟨⟨⟨[], rfl⟩, ⟨_, rfl⟩⟩, Nat.zero_le _, hlen x hm, rfl⟩
  · exact (hx x hm).2.2.2.2.1
  · rw [List.length_map]; exact (hx x hm).2.2.2.2.2.1
  · exact hE x hm
  · exact hE x hm
  · have := hlen x hm; omega
  · rw [List.length_map]; exact (hx x hm).2.2.2.2.2.2
theorem isT {l : List OT} {n : Nat} {x : OT} (h : l[n]? = some x) (hk : x.kind ≠ 0) : isSB (l.map OT.ob) n 0 = true := by
  have hn := (List.getElem?_eq_some_iff.1 h).1
  unfold isSB
  rw [Int.toNat_natCast, List.getElem?_map, h, List.length_map]
  have : x.ob.kind ≠ 0 := hk
  simp [hn, this]
theorem mkT_eq {l : List OT} (h : ∀ x, x ∈ l → x.kind ≠ 0) (hl : l.length < 40) (x : OT) : rMakeSB (l.map OT.ob) x.ob = ((l ++ [x]).map OT.ob, (l.length : Int), 0) := by
  have hf : freeKB (l.map OT.ob) = l.length := by
    rw [freeK_endB (fun j o hj ho => ?_), List.length_map]
    obtain ⟨y, hy, rfl⟩ := List.mem_map.1 (List.mem_of_getElem? ho)
    exact h y hy
  unfold rMakeSB
  rw [hf]
  rw [if_neg (by omega), withSB, List.length_map, if_pos rfl, List.map_append]
  rfl
def enterT (l : List OT) (n p : Nat) (name : Pth.Txt) : List OT := match l[n]? with
  | none => l
  | some x => match (l.set n { x with es := insT (name, (p : Int)) x.es })[p]? with
    | none => l
    | some q => (l.set n { x with es := insT (name, (p : Int)) x.es }).set p { q with links := IntKind.i64.wrap (q.links + 1), up := if q.kind = 2 then (n : Int) else q.up }
theorem entT_eq (l : List OT) (n p : Nat) (name : Pth.Txt) : entS (l.map OT.ob) n p (Pth.bysL name) = (enterT l n p name).map OT.ob := by
  unfold entS enterT
  rw [List.getElem?_map]
  cases hn : l[n]? with
  | none => rfl
  | some x =>
    simp only [Option.map_some]
    have e : ({ x.ob with entries := (insS ((Pth.bysL name, (p : Int)) : NE) (x.ob.entries.map unE)).map entD } : Ob) = OT.ob { x with es := insT (name, (p : Int)) x.es } := by
      have h1 : x.ob.entries.map unE = x.es.map fun e => ((Pth.bysL e.1, e.2) : NE) := unE_map _
      rw [h1, insT_eq (name, (p : Int)) x.es]
      rfl
    rw [e, ← List.map_set, List.getElem?_map]
    cases hp : (l.set n { x with es := insT (name, (p : Int)) x.es })[p]? with
    | none => rfl
    | some q =>
      simp only [Option.map_some, List.map_set]
      rfl
theorem enterT_eq {l : List OT} {n p : Nat} {x q : OT} {name : Pth.Txt} (hn : l[n]? = some x) (hp : l[p]? = some q) (hk : x.kind = 2) (hq : q.kind ≠ 0) (hl : x.links ≠ 0) (hf : fndT x.es name < 0) (h8 : x.es.length < 8) :
    rEnterS true (l.map OT.ob) n (Pth.bysL name) p = ((enterT l n p name).map OT.ob, 0) := by
  have hnl := (List.getElem?_eq_some_iff.1 hn).1
  have hg : (l.map OT.ob)[n]'(by simpa using hnl) = x.ob := by
    rw [List.getElem_map, (List.getElem?_eq_some_iff.1 hn).2]
  have h1 : x.ob.entries.map unE = x.es.map fun e => ((Pth.bysL e.1, e.2) : NE) := unE_map _
  rw [rEnterS_at (isT hn (by rw [hk]; decide)) (isT hp hq) (by simpa using hnl), hg, entT_eq, entK, if_neg (show ¬ x.ob.kind ≠ 2 from fun h => h hk), if_neg (show ¬ x.ob.links = 0 from hl), if_neg (by simp), h1, findT, if_neg (by omega), if_neg]
  show ¬ ((x.es.map fun e => ((Pth.bysL e.1, e.2) : NE)).map entD).length ≥ 8
  rw [List.length_map, List.length_map]
  omega
def dT (links up : Int) (es : List (Pth.Txt × Int)) : OT := ⟨2, es, [], 0, 0, links, up⟩
def nT : List OT := [dT 0 0 [], dT 0 0 [], ⟨1, [], [], 0, 0, 0, 0⟩, ⟨3, [], [46, 46, 47, 120], 0, 0, 0, 0⟩]
def rT (es : List (Pth.Txt × Int)) : OT := ⟨2, es, [], -1, -1, 1, 0⟩
def treeT : Nat → List OT
  | 0 => [rT []]
  | 1 => [rT [([97], 1)], dT 1 0 []]
  | 2 => [rT [([97], 1)], dT 1 0 [([98], 2)], dT 1 1 []]
  | 3 => [rT [([97], 1)], dT 1 0 [([98], 2)], dT 1 1 [([102], 3)], ⟨1, [], [], 0, 0, 1, 0⟩]
  | _ => [rT [([97], 1)], dT 1 0 [([98], 2), ([108], 4)], dT 1 1 [([102], 3)], ⟨1, [], [], 0, 0, 1, 0⟩, ⟨3, [], [46, 46, 47, 120], 0, 0, 1, 0⟩]
theorem treeT_ok : ∀ k, k < 5 → okL (treeT k) = true := by
  intro k hk
  match k, hk with
  | 0, _ => decide +kernel
  | 1, _ => decide +kernel
  | 2, _ => decide +kernel
  | 3, _ => decide +kernel
  | 4, _ => decide +kernel
def nA (k : Nat) : Nat := match k with | 0 => 0 | 1 => 1 | 2 => 2 | _ => 1
def nW (k : Nat) : Pth.Txt := match k with | 0 => [97] | 1 => [98] | 2 => [102] | _ => [108]
theorem treeT_len (k : Nat) (hk : k < 5) : (treeT k).length = k + 1 := by
  match k, hk with
  | 0, _ => rfl
  | 1, _ => rfl
  | 2, _ => rfl
  | 3, _ => rfl
  | 4, _ => rfl
theorem treeT_make (k : Nat) (hk : k < 4) (x : OT) (hx : nT[k]? = some x) : rMakeSB ((treeT k).map OT.ob) x.ob = ((treeT k ++ [x]).map OT.ob, ((k + 1 : Nat) : Int), 0) := by
  rw [mkT_eq (fun y hy => ?_) (by rw [treeT_len k (by omega)]; omega), treeT_len k (by omega)]
  have := okL_at (treeT_ok k (by omega)) y hy
  simp only [okOT, Bool.and_eq_true, decide_eq_true_eq] at this
  exact this.1.1.1.2
theorem treeT_mok (k : Nat) (hk : k < 4) (x : OT) (hx : nT[k]? = some x) : okL (treeT k ++ [x]) = true := by
  match k, hk with
  | 0, _ => cases hx; decide +kernel
  | 1, _ => cases hx; decide +kernel
  | 2, _ => cases hx; decide +kernel
  | 3, _ => cases hx; decide +kernel
theorem treeT_enter (k : Nat) (hk : k < 4) (x : OT) (hx : nT[k]? = some x) : rEnterS true ((treeT k ++ [x]).map OT.ob) (nA k : Nat) (Pth.bysL (nW k)) ((k + 1 : Nat) : Int) = ((treeT (k + 1)).map OT.ob, 0) := by
  match k, hk with
  | 0, _ => cases hx; rw [enterT_eq (x := rT []) (q := dT 0 0 []) rfl rfl rfl (by decide) (by decide) (by decide) (by decide)]; rfl
  | 1, _ => cases hx; rw [enterT_eq (x := dT 1 0 []) (q := dT 0 0 []) rfl rfl rfl (by decide) (by decide) (by decide) (by decide)]; rfl
  | 2, _ => cases hx; rw [enterT_eq (x := dT 1 1 []) (q := ⟨1, [], [], 0, 0, 0, 0⟩) rfl rfl rfl (by decide) (by decide) (by decide) (by decide)]; rfl
  | 3, _ => cases hx; rw [enterT_eq (x := dT 1 0 [([98], 2)]) (q := ⟨3, [], [46, 46, 47, 120], 0, 0, 0, 0⟩) rfl rfl rfl (by decide) (by decide) (by decide) (by decide)]; rfl

/-! the tree -/
theorem getZ_ob {l : List Ob} {k : Nat} {o : Ob} (h : l[k]? = some o) : getZ (l.map Ob.enc) (k : Nat) = some [.val (.int .i64 o.kind), .sl 1 o.data, .sl 2 o.entries, .val (.string o.target), .val (.int .i64 o.peer), o.queue, .val (.int .i64 o.proc), .val (.int .i64 o.links), .val (.int .i64 o.up)] := by
  rw [getZ_nat, List.getElem?_map, h]
  rfl
theorem obFz {m : Mem} {Z : Nat → Prop} {p : Option Nat} (a b c d e f : Dt) : CcsFz m Z p [.dat a, .esl, .esl, .dat b, .dat c, .esl, .dat d, .dat e, .dat f] [a, .sl 1 [], .sl 2 [], b, c, noD, d, e, f] :=
  .cons (.dat _) (.cons (.esl 1) (.cons (.esl 2) (.cons (.dat _) (.cons (.dat _) (.cons .no (.cons (.dat _) (.cons (.dat _) (.cons (.dat _) .nil))))))))
theorem nm_ok (w : Pth.Txt) (h : Pth.nameOk w = true) (hl : w.length ≤ 4194304) {m : Mem} {K : CV → Mem → Prop} (hK : K (vBool true) m) : ACall Tryd.prog 16 [vStr (Pth.bysL w)] m K :=
  Pth.rname_ok w hl (by rw [h]; exact hK)
set_option maxRecDepth 100000 in
set_option maxHeartbeats 8000000 in
theorem tree_body : body Tryd.prog c19 [] [] (fun r m => r = obsV ((treeT 4).map OT.ob)) := by
  refine loop_keep (fun k : Nat => k ≤ 4) [] (fun k => [(1, obsV ((treeT k).map OT.ob)), (13, obsV (nT.map OT.ob)), (14, vInt .i64 4), (15, vInt .i64 (k : Nat))]) (fun _ => []) (fun k => 4 - k) 0 (Nat.zero_le _) ?_ (fun k hk => ?_)
  · refine View.of 2 [] [0, 1] rfl rfl rfl rfl rfl rfl ?_ (.nil _)
    repeat (first | exact .nil | refine .junk ?_ | refine .put (.rv (.one (.frz (RowsFz.frz (.cons (obFz _ _ _ _ _ _) .nil) rfl rfl)))) ?_ | refine .put (.rv (.one (.frz (RowsFz.frz (.cons (obFz _ _ _ _ _ _) (.cons (obFz _ _ _ _ _ _) (.cons (obFz _ _ _ _ _ _) (.cons (obFz _ _ _ _ _ _) .nil)))) rfl rfl)))) ?_ | refine .eq rfl ?_)
  have hk : k ≤ 4 := hk
  have hcase : k = 4 ∨ k < 4 := by omega
  rcases hcase with rfl | hlt
  · exact rfl
  refine bB_yes (decide_eq_true (by show (k : Int) < 4; omega)) ?_
  obtain ⟨x, hx⟩ : ∃ x, nT[k]? = some x := ⟨nT[k]'(by simpa [nT] using hlt), List.getElem?_eq_getElem _⟩
  have hg := getZ_ob (l := nT.map OT.ob) (k := k) (o := x.ob) (by rw [List.getElem?_map, hx]; rfl)
  refine ok_some hg ?_
  refine rmake_okB ((treeT k).map OT.ob) (by rw [List.length_map, treeT_len k (by omega)]; omega) x.ob ?_
  rw [treeT_make k hlt x hx]
  have hen : ∀ {m : Mem} {K : CV → Mem → Prop}, K (twoVB ((treeT (k + 1)).map OT.ob) 0) m → ACall Tryd.prog 20 [obsV ((treeT k ++ [x]).map OT.ob), vInt .i64 (nA k : Nat), vStr (Pth.bysL (nW k)), vInt .i64 ((k + 1 : Nat) : Int)] m K := fun {m K} h => by
    refine enter_okX _ (okL_good (treeT_mok k hlt x hx)).1 (nA k : Nat) (Pth.bysL (nW k)) true (fun {m K} h => nm_ok (nW k) ?_ ?_ h) ((k + 1 : Nat) : Int) ?_
    · match k, hlt with
      | 0, _ => decide
      | 1, _ => decide
      | 2, _ => decide
      | 3, _ => decide
    · match k, hlt with
      | 0, _ => decide
      | 1, _ => decide
      | 2, _ => decide
      | 3, _ => decide
    · rw [treeT_enter k hlt x hx]
      exact h
  have hz1 : idxZ ((k : Nat) : Int) 4 = some k := idxZ_nat hlt
  match k, hlt with
  | 0, _ =>
    refine ⟨⟨trivial, ?_⟩, ⟨trivial, ?_⟩⟩
    all_goals
      refine ⟨⟨rfl, rfl, trivial⟩, ?_⟩
      refine hen ?_
      refine ⟨trivial, ?_⟩
      refine ⟨1, (by decide), (by decide), View.of 3 [] [] rfl rfl rfl rfl rfl rfl ?_ (.nil _)⟩
      repeat (first | exact .nil | refine .junk ?_ | refine .eq rfl ?_)
  | 1, _ =>
    refine ⟨⟨trivial, ?_⟩, ⟨trivial, ?_⟩⟩
    all_goals
      refine ⟨⟨rfl, rfl, trivial⟩, ?_⟩
      refine hen ?_
      refine ⟨trivial, ?_⟩
      refine ⟨2, (by decide), (by decide), View.of 3 [] [] rfl rfl rfl rfl rfl rfl ?_ (.nil _)⟩
      repeat (first | exact .nil | refine .junk ?_ | refine .eq rfl ?_)
  | 2, _ =>
    refine ⟨⟨trivial, ?_⟩, ⟨trivial, ?_⟩⟩
    all_goals
      refine ⟨⟨rfl, rfl, trivial⟩, ?_⟩
      refine hen ?_
      refine ⟨trivial, ?_⟩
      refine ⟨3, (by decide), (by decide), View.of 3 [] [] rfl rfl rfl rfl rfl rfl ?_ (.nil _)⟩
      repeat (first | exact .nil | refine .junk ?_ | refine .eq rfl ?_)
  | 3, _ =>
    refine ⟨⟨trivial, ?_⟩, ⟨trivial, ?_⟩⟩
    all_goals
      refine ⟨⟨rfl, rfl, trivial⟩, ?_⟩
      refine hen ?_
      refine ⟨trivial, ?_⟩
      refine ⟨4, (by decide), (by decide), View.of 3 [] [] rfl rfl rfl rfl rfl rfl ?_ (.nil _)⟩
      repeat (first | exact .nil | refine .junk ?_ | refine .eq rfl ?_)
set_option maxRecDepth 100000 in
theorem tree_ok {m : Mem} {K : CV → Mem → Prop} (h : K (obsV ((treeT 4).map OT.ob)) m) : ACall Tryd.prog 19 [] m K :=
  acall_val Tryd.func19 l19 rfl (Nat.le_of_ble_eq_true rfl) tree_body rfl rfl h

def c13 : LF := ⟨61, [.tmp 0], (.seq (.reg [
    ⟨(some 0), .mov (.c (.rv (.one (.dat (.val (.bool false)))))), none⟩]) (.seq (.reg [
    ⟨(some 8), .call (.c (.rv (.one (.fn 19 [])))) [], none⟩,
    ⟨(some 9), .call (.c (.rv (.one (.fn 9 [])))) [(.t 8), (.c (.rv (.one (.dat (.val (.int .i64 (1))))))), (.c (.rv (.one (.dat (.val (.string ⟨#[98, 47, 46, 46, 47, 98, 47, 102]⟩)))))), (.c (.rv (.one (.dat (.val (.bool true)))))), (.c (.rv (.one (.dat (.val (.bool true))))))], none⟩,
    ⟨(some 7), .mov (.t 9), none⟩,
    ⟨(some 10), .ext (.t 7) 0, none⟩,
    ⟨(some 11), .ext (.t 7) 1, none⟩,
    ⟨(some 1), .alloc [(.dat (.val (.int .i64 (0)))), (.dat (.val (.int .i64 (0)))), (.dat (.val (.string ⟨#[]⟩)))], none⟩,
    ⟨none, .store 3 (.t 1) (.t 10), none⟩,
    ⟨(some 2), .mov (.t 11), none⟩]) (.seq (.reg [
    ⟨(some 13), .call (.c (.rv (.one (.fn 19 [])))) [], none⟩,
    ⟨(some 14), .call (.c (.rv (.one (.fn 9 [])))) [(.t 13), (.c (.rv (.one (.dat (.val (.int .i64 (1))))))), (.c (.rv (.one (.dat (.val (.string ⟨#[108]⟩)))))), (.c (.rv (.one (.dat (.val (.bool true)))))), (.c (.rv (.one (.dat (.val (.bool true))))))], none⟩,
    ⟨(some 12), .mov (.t 14), none⟩,
    ⟨(some 15), .ext (.t 12) 0, none⟩,
    ⟨(some 16), .ext (.t 12) 1, none⟩,
    ⟨(some 3), .alloc [(.dat (.val (.int .i64 (0)))), (.dat (.val (.int .i64 (0)))), (.dat (.val (.string ⟨#[]⟩)))], none⟩,
    ⟨none, .store 3 (.t 3) (.t 15), none⟩,
    ⟨(some 4), .mov (.t 16), none⟩]) (.seq (.reg [
    ⟨(some 18), .call (.c (.rv (.one (.fn 19 [])))) [], none⟩,
    ⟨(some 19), .call (.c (.rv (.one (.fn 9 [])))) [(.t 18), (.c (.rv (.one (.dat (.val (.int .i64 (1))))))), (.c (.rv (.one (.dat (.val (.string ⟨#[108]⟩)))))), (.c (.rv (.one (.dat (.val (.bool false)))))), (.c (.rv (.one (.dat (.val (.bool true))))))], none⟩,
    ⟨(some 17), .mov (.t 19), none⟩,
    ⟨(some 20), .ext (.t 17) 0, none⟩,
    ⟨(some 21), .ext (.t 17) 1, none⟩,
    ⟨(some 5), .alloc [(.dat (.val (.int .i64 (0)))), (.dat (.val (.int .i64 (0)))), (.dat (.val (.string ⟨#[]⟩)))], none⟩,
    ⟨none, .store 3 (.t 5) (.t 20), none⟩,
    ⟨(some 6), .mov (.t 21), none⟩]) (.seq (.reg [
    ⟨(some 22), .mov (.t 2), none⟩,
    ⟨(some 23), .bin .eql (.t 22) (.c (.rv (.one (.dat (.val (.int .i64 (0))))))), none⟩,
    ⟨(some 24), .mov (.t 23), none⟩,
    ⟨(some 25), .fadr 0 (.t 1), (some (24, true))⟩,
    ⟨(some 26), .load false 1 (.t 25), (some (24, true))⟩,
    ⟨(some 27), .bin .eql (.t 26) (.c (.rv (.one (.dat (.val (.int .i64 (3))))))), (some (24, true))⟩,
    ⟨(some 28), .pick (.t 24) (.t 27) (.c (.rv (.one (.dat (.val (.bool false)))))), none⟩,
    ⟨(some 29), .mov (.t 28), none⟩,
    ⟨(some 30), .fadr 2 (.t 1), (some (29, true))⟩,
    ⟨(some 31), .load false 1 (.t 30), (some (29, true))⟩,
    ⟨(some 32), .bin .eql (.t 31) (.c (.rv (.one (.dat (.val (.string ⟨#[102]⟩)))))), (some (29, true))⟩,
    ⟨(some 33), .pick (.t 29) (.t 32) (.c (.rv (.one (.dat (.val (.bool false)))))), none⟩,
    ⟨(some 34), .mov (.t 33), none⟩,
    ⟨(some 35), .mov (.t 4), (some (34, true))⟩,
    ⟨(some 36), .bin .eql (.t 35) (.c (.rv (.one (.dat (.val (.int .i64 (14))))))), (some (34, true))⟩,
    ⟨(some 37), .pick (.t 34) (.t 36) (.c (.rv (.one (.dat (.val (.bool false)))))), none⟩,
    ⟨(some 38), .mov (.t 37), none⟩,
    ⟨(some 39), .mov (.t 6), (some (38, true))⟩,
    ⟨(some 40), .bin .eql (.t 39) (.c (.rv (.one (.dat (.val (.int .i64 (0))))))), (some (38, true))⟩,
    ⟨(some 41), .pick (.t 38) (.t 40) (.c (.rv (.one (.dat (.val (.bool false)))))), none⟩,
    ⟨(some 42), .mov (.t 41), none⟩,
    ⟨(some 43), .fadr 0 (.t 5), (some (42, true))⟩,
    ⟨(some 44), .load false 1 (.t 43), (some (42, true))⟩,
    ⟨(some 45), .bin .eql (.t 44) (.c (.rv (.one (.dat (.val (.int .i64 (-1))))))), (some (42, true))⟩,
    ⟨(some 46), .pick (.t 42) (.t 45) (.c (.rv (.one (.dat (.val (.bool false)))))), none⟩,
    ⟨(some 47), .mov (.t 46), none⟩,
    ⟨(some 48), .fadr 1 (.t 5), (some (47, true))⟩,
    ⟨(some 49), .load false 1 (.t 48), (some (47, true))⟩,
    ⟨(some 50), .bin .eql (.t 49) (.c (.rv (.one (.dat (.val (.int .i64 (0))))))), (some (47, true))⟩,
    ⟨(some 51), .pick (.t 47) (.t 50) (.c (.rv (.one (.dat (.val (.bool false)))))), none⟩,
    ⟨(some 52), .mov (.t 51), none⟩,
    ⟨(some 53), .call (.c (.rv (.one (.fn 19 [])))) [], (some (52, true))⟩,
    ⟨(some 54), .call (.c (.rv (.one (.fn 11 [])))) [(.t 53), (.c (.rv (.one (.dat (.val (.int .i64 (2))))))), (.c (.rv (.one (.dat (.val (.int .i64 (1)))))))], (some (52, true))⟩,
    ⟨(some 55), .pick (.t 52) (.t 54) (.c (.rv (.one (.dat (.val (.bool false)))))), none⟩,
    ⟨(some 56), .mov (.t 55), none⟩,
    ⟨(some 57), .call (.c (.rv (.one (.fn 19 [])))) [], (some (56, true))⟩,
    ⟨(some 58), .call (.c (.rv (.one (.fn 11 [])))) [(.t 57), (.c (.rv (.one (.dat (.val (.int .i64 (0))))))), (.c (.rv (.one (.dat (.val (.int .i64 (1)))))))], (some (56, true))⟩,
    ⟨(some 59), .un .not (.t 58), (some (56, true))⟩,
    ⟨(some 60), .pick (.t 56) (.t 59) (.c (.rv (.one (.dat (.val (.bool false)))))), none⟩,
    ⟨(some 0), .mov (.t 60), none⟩]) .ret)))))⟩
/-! the closed fact -/
theorem l13 : lowF Tryd.prog Tryd.f13 = some c13 := by kernel_rfl
theorem fndL (l : List OT) (a : Nat) (w : Pth.Txt) : fnd (l.map OT.ob) a w = fndT (match l[a]? with | some x => x.es | none => []) w := by
  unfold fnd oAt entsO
  rw [List.getElem?_map]
  cases l[a]? with
  | none => rfl
  | some x =>
    show findS (x.ob.entries.map unE) (Pth.bysL w) = fndT x.es w
    rw [show x.ob.entries.map unE = x.es.map fun e => ((Pth.bysL e.1, e.2) : NE) from unE_map _, findT]
def kT (l : List OT) (a : Nat) : Int := match l[a]? with | some x => x.kind | none => 0
theorem kindL (l : List OT) (a : Nat) : (oAt (l.map OT.ob) a).kind = kT l a := by
  unfold oAt kT
  rw [List.getElem?_map]
  cases l[a]? with
  | none => rfl
  | some x => rfl
def uT (l : List OT) (a : Nat) : Nat := match l[a]? with | some x => x.up.toNat | none => 0
theorem upL (l : List OT) (a : Nat) : upN (l.map OT.ob) a = uT l a := by
  unfold upN oAt uT
  rw [List.getElem?_map]
  cases l[a]? with
  | none => rfl
  | some x => rfl
def tT (l : List OT) (a : Nat) : Pth.Txt := match l[a]? with | some x => x.t | none => []
theorem tgtL (l : List OT) (a : Nat) : tgt (l.map OT.ob) a = tT l a := by
  unfold tgt oAt tT
  rw [List.getElem?_map]
  cases l[a]? with
  | none => rfl
  | some x => rfl
set_option maxRecDepth 100000 in
theorem look1 : lookS ((treeT 4).map OT.ob) 1 [98, 47, 46, 46, 47, 98, 47, 102] true true = ⟨3, 2, [102], 0⟩ := by
  have h1 : isSB ((treeT 4).map OT.ob) 1 0 = true := by decide
  have h2 : Pth.splitS [98, 47, 46, 46, 47, 98, 47, 102] = ([[98], [46, 46], [98], [102]], false, 0) := by decide
  rw [lookS, if_pos h1, kindL, if_neg (by decide), h2, if_neg (by decide), if_neg (by decide)]
  simp only [wkS, wk1, fndL, kindL, upL]
  rfl
theorem wk1_link {l : List Ob} {base : Nat} {fence follow : Bool} {rec : Nat → List Pth.Txt → Nat → R4} {w : Pth.Txt} {rest : List Pth.Txt} {a k : Nat} (h1 : (oAt l a).kind = 2) (h2 : w ≠ [46, 46]) (h3 : fnd l a w = (k : Nat)) (h4 : (oAt l k).kind = 3) (h5 : follow = true ∨ rest ≠ []) :
    wk1 l base fence follow rec (w :: rest) a = rec a rest k := by
  rw [wk1, if_neg (by rw [h1]; simp), if_neg h2, h3, if_neg (by omega), Int.toNat_natCast, if_pos ⟨h4, h5⟩]
theorem lnk_ok {l : List Ob} {fence : Bool} {wk : List Pth.Txt → Nat → R4} {a k : Nat} {rest ps : List Pth.Txt} (h : Pth.splitS (tgt l k) = (ps, false, 0)) : lnk l fence wk a rest k = wk (ps ++ rest) a := by
  rw [lnk, h, if_neg (by simp), if_neg (by simp), if_neg (by simp)]
theorem wk1_up {l : List Ob} {base : Nat} {fence follow : Bool} {rec : Nat → List Pth.Txt → Nat → R4} {rest : List Pth.Txt} {a : Nat} (h1 : (oAt l a).kind = 2) :
    wk1 l base fence follow rec ([46, 46] :: rest) a = if fence = true ∧ a = base then R4.no 14 else wk1 l base fence follow rec rest (upN l a) := by
  rw [wk1, if_neg (by rw [h1]; simp), if_pos rfl]
theorem wk1_miss {l : List Ob} {base : Nat} {fence follow : Bool} {rec : Nat → List Pth.Txt → Nat → R4} {w : Pth.Txt} {a : Nat} (h1 : (oAt l a).kind = 2) (h2 : w ≠ [46, 46]) (h3 : fnd l a w < 0) :
    wk1 l base fence follow rec [w] a = ⟨-1, a, w, 0⟩ := by
  rw [wk1, if_neg (by rw [h1]; simp), if_neg h2, if_pos h3, if_neg (by simp)]
theorem look23 (fence : Bool) : lookS ((treeT 4).map OT.ob) 1 [108] fence true = if fence = true then R4.no 14 else ⟨-1, 0, [120], 0⟩ := by
  have h1 : isSB ((treeT 4).map OT.ob) 1 0 = true := by decide
  have h2 : Pth.splitS [108] = ([[108]], false, 0) := by decide
  have h3 : Pth.splitS (tgt ((treeT 4).map OT.ob) 4) = ([[46, 46], [120]], false, 0) := by rw [tgtL]; decide
  have f1 : fnd ((treeT 4).map OT.ob) 1 [108] = (4 : Nat) := by rw [fndL]; rfl
  have f2 : fnd ((treeT 4).map OT.ob) 0 [120] < 0 := by rw [fndL]; decide
  rw [lookS, if_pos h1, kindL, if_neg (by decide), h2, if_neg (by decide), if_neg (by simp)]
  show wk1 _ _ _ _ (lnk _ _ (wkS _ _ _ _ 5)) [[108]] 1 = _
  rw [wk1_link (by rw [kindL]; rfl) (by decide) f1 (by rw [kindL]; rfl) (.inl rfl), lnk_ok h3]
  show wk1 _ _ _ _ (lnk _ _ (wkS _ _ _ _ 4)) [[46, 46], [120]] 1 = _
  rw [wk1_up (by rw [kindL]; rfl), upL]
  cases fence with
  | true => rfl
  | false =>
    rw [if_neg (by simp), if_neg (by simp)]
    exact wk1_miss (by rw [kindL]; rfl) (by decide) f2
theorem ben1 : bnS ((treeT 4).map OT.ob) 1 (((treeT 4).map OT.ob).length + 1) 2 = true := by decide
theorem ben2 : bnS ((treeT 4).map OT.ob) 1 (((treeT 4).map OT.ob).length + 1) 0 = false := by decide
set_option maxRecDepth 100000 in
set_option maxHeartbeats 8000000 in
theorem alive_gen (l : List Ob) (ok : LkOK l) (nf n2 n3 : Pth.Txt) (hnf : ((Pth.bysL nf).toList == (⟨#[102]⟩ : ByteArray).toList) = true) (tr : ∀ {m : Mem} {K : CV → Mem → Prop}, K (obsV l) m → ACall Tryd.prog 19 [] m K) (h1 : lookS l 1 [98, 47, 46, 46, 47, 98, 47, 102] true true = ⟨3, 2, nf, 0⟩) (h2 : lookS l 1 [108] true true = ⟨0, 0, n2, 14⟩) (h3 : lookS l 1 [108] false true = ⟨-1, 0, n3, 0⟩)
    (b1 : bnS l 1 (l.length + 1) 2 = true) (b2 : bnS l 1 (l.length + 1) 0 = false) : body Tryd.prog c13 [] [] (fun r m => r = vBool true) := by
  have hl := ok.len
  refine tr ?_
  refine path_ok l ok 1 [98, 47, 46, 46, 47, 98, 47, 102] true true ?_
  rw [h1]
  refine tr ?_
  refine path_ok l ok 1 [108] true true ?_
  rw [h2]
  refine tr ?_
  refine path_ok l ok 1 [108] false true ?_
  rw [h3]
  refine bB_yes hnf ?_
  refine tr ?_
  refine sben_ok l (by omega) 2 1 ?_
  rw [b1]
  refine tr ?_
  refine sben_ok l (by omega) 0 1 ?_
  rw [b2]
  exact rfl
set_option maxRecDepth 100000 in
theorem alive_ok {m : Mem} {K : CV → Mem → Prop} (h : K (vBool true) m) : ACall Tryd.prog 13 [] m K :=
  acall_val Tryd.func13 l13 rfl (Nat.le_of_ble_eq_true rfl) (alive_gen ((treeT 4).map OT.ob) (okL_good (treeT_ok 4 (by omega))).2 [102] [] [120] (by rw [beq_iff_eq]; rfl) tree_ok look1 (look23 true) (look23 false) ben1 ben2) rfl rfl h

/-! plain laws of looking -/
theorem rb_any {l : List Ob} {base dir : Int} : ∀ (F : Nat) (a : StRb), RbOK l base dir a → bnS l base F a.d = true → bnS l base (l.length + 1) dir = true
  | 0, a, _, h => by cases h
  | F + 1, ⟨d, V⟩, h, hb => by
    have hle : V.length ≤ l.length := h.le
    have heq : bnS l base (l.length + 1 - V.length) d = bnS l base (l.length + 1) dir := h.eq
    have hb0 : bnS l base (F + 1) d = true := hb
    have hb : bnS l base (F + 1) d = true := hb
    rw [bnS] at hb
    rw [← heq, show l.length + 1 - V.length = (l.length - V.length) + 1 by omega, bnS]
    by_cases hI : isSB l d 2 = false
    · rw [if_pos hI] at hb; cases hb
    rw [if_neg hI] at hb ⊢
    by_cases h6 : d = base
    · rw [if_pos h6]
    rw [if_neg h6] at hb ⊢
    by_cases h7 : d = 0
    · rw [if_pos h7] at hb; cases hb
    rw [if_neg h7] at hb ⊢
    rw [Bool.not_eq_false] at hI
    obtain ⟨n, rfl, hn, hk⟩ := is4_yesB (by decide) hI
    by_cases hm : n ∈ V
    · have := bnS_closed V (fun x hx => by
        obtain ⟨h1, h2⟩ := h.cl x hx
        refine ⟨h1, ?_⟩
        rcases h2 with h2 | h2
        · exact ⟨n, hm, h2⟩
        · exact h2) (F + 1) n hm
      rw [this] at hb0
      cases hb0
    · have hx := h.next hm hn hk h6 h7
      have := rb_any F _ hx (by show bnS l base F l[n].up = true; rw [Int.toNat_natCast, oAt_eq hn] at hb; exact hb)
      have e2 := hx.eq
      rw [← e2] at this
      have e3 : bnS l base (l.length + 1 - (V ++ [n]).length) l[n].up = true := this
      rw [List.length_append, List.length_singleton, show l.length + 1 - (V.length + 1) = l.length - V.length by omega] at e3
      rw [Int.toNat_natCast, oAt_eq hn]
      exact e3
theorem bn_any {l : List Ob} {base dir : Int} {F : Nat} (h : bnS l base F dir = true) : bnS l base (l.length + 1) dir = true :=
  rb_any F ⟨dir, []⟩ ⟨by simp, by simp, by simp, rfl⟩ h
/-- it lies beneath -/
def Bn (l : List Ob) (base a : Nat) : Prop := ∃ F, bnS l (base : Nat) F (a : Nat) = true
theorem Bn.base {l : List Ob} {base : Nat} (hb : base < l.length) (hk : l[base].kind = 2) : Bn l base base := ⟨1, by rw [bnS, is2_mk hb hk, if_neg (by simp), if_pos rfl]⟩
theorem Bn.dir {l : List Ob} {base a : Nat} (h : Bn l base a) : ∃ h : a < l.length, l[a].kind = 2 := by
  obtain ⟨F, h⟩ := h
  cases F with
  | zero => cases h
  | succ F =>
    rw [bnS] at h
    by_cases hI : isSB l a 2 = false
    · rw [if_pos hI] at h; cases h
    rw [Bool.not_eq_false] at hI
    obtain ⟨n, he, hn, hk⟩ := is4_yesB (by decide) hI
    have : n = a := by omega
    subst this
    exact ⟨hn, hk⟩
theorem Bn.up {l : List Ob} (ok : LkOK l) {base a : Nat} (h : Bn l base a) (hb : a ≠ base) : Bn l base (upN l a) := by
  obtain ⟨ha, hk⟩ := h.dir
  obtain ⟨F, h⟩ := h
  cases F with
  | zero => cases h
  | succ F =>
    rw [bnS, is2_mk ha hk, if_neg (by simp), if_neg (by omega)] at h
    by_cases h0 : (a : Int) = 0
    · rw [if_pos h0] at h; cases h
    rw [if_neg h0, Int.toNat_natCast, oAt_eq ha, ok.upN_eq ha] at h
    exact ⟨F, h⟩
theorem Bn.down {l : List Ob} {base a k : Nat} (h : Bn l base a) (hk : k < l.length) (h2 : l[k].kind = 2) (hu : l[k].up = (a : Nat)) (h0 : k ≠ 0) : Bn l base k := by
  by_cases hb : k = base
  · subst hb; exact Bn.base hk h2
  obtain ⟨F, h⟩ := h
  exact ⟨F + 1, by rw [bnS, is2_mk hk h2, if_neg (by simp), if_neg (by omega), if_neg (by omega), Int.toNat_natCast, oAt_eq hk, hu]; exact h⟩
/-- what holds wherever one goes -/
theorem wk_ind {l : List Ob} {base : Nat} {fence follow : Bool} (I : List Pth.Txt → Nat → Prop) (P : R4 → Prop)
    (hno : ∀ e, e ≠ 0 → P (R4.no e)) (hnil : ∀ a, I [] a → P ⟨a, upN l a, [], 0⟩)
    (hup : ∀ a rest, I ([46, 46] :: rest) a → (oAt l a).kind = 2 → ¬ (fence = true ∧ a = base) → I rest (upN l a))
    (hmiss : ∀ a w, I [w] a → (oAt l a).kind = 2 → fnd l a w < 0 → P ⟨-1, a, w, 0⟩)
    (hend : ∀ a w, I [w] a → (oAt l a).kind = 2 → ¬ fnd l a w < 0 → P ⟨fnd l a w, a, w, 0⟩)
    (hdown : ∀ a w rest, I (w :: rest) a → (oAt l a).kind = 2 → rest ≠ [] → ¬ fnd l a w < 0 → I rest (fnd l a w).toNat)
    (hlink : ∀ a w rest t, I (w :: rest) a → (oAt l a).kind = 2 → (Pth.splitS t).2.2 = 0 → I ((Pth.splitS t).1 ++ rest) a ∧ (fence = false → I ((Pth.splitS t).1 ++ rest) 0)) :
    ∀ (n : Nat) (todo : List Pth.Txt) (a : Nat), I todo a → P (wkS l base fence follow n todo a) := by
  have key : ∀ rec : Nat → List Pth.Txt → Nat → R4, (∀ a w rest k, I (w :: rest) a → (oAt l a).kind = 2 → P (rec a rest k)) → ∀ (todo : List Pth.Txt) (a : Nat), I todo a → P (wk1 l base fence follow rec todo a) := by
    intro rec hrec todo
    induction todo with
    | nil => intro a ha; exact hnil a ha
    | cons w rest ih =>
      intro a ha
      rw [wk1]
      by_cases hk : (oAt l a).kind ≠ 2
      · rw [if_pos hk]; exact hno 11 (by decide)
      rw [if_neg hk]
      have hk : (oAt l a).kind = 2 := by simpa using hk
      by_cases hw : w = [46, 46]
      · subst hw
        rw [if_pos rfl]
        by_cases hf : fence = true ∧ a = base
        · rw [if_pos hf]; exact hno 14 (by decide)
        · rw [if_neg hf]; exact ih _ (hup a rest ha hk hf)
      rw [if_neg hw]
      by_cases hn : fnd l a w < 0
      · rw [if_pos hn]
        by_cases hr : rest ≠ []
        · rw [if_pos hr]; exact hno 6 (by decide)
        · rw [if_neg hr]
          have hr : rest = [] := by simpa using hr
          subst hr
          exact hmiss a w ha hk hn
      rw [if_neg hn]
      by_cases h3 : (oAt l (fnd l a w).toNat).kind = 3 ∧ (follow = true ∨ rest ≠ [])
      · rw [if_pos h3]; exact hrec a w rest _ ha hk
      rw [if_neg h3]
      by_cases hr : rest = []
      · subst hr
        rw [if_pos rfl]
        exact hend a w ha hk hn
      · rw [if_neg hr]
        exact ih _ (hdown a w rest ha hk hr hn)
  intro n
  induction n with
  | zero => exact key _ fun _ _ _ _ _ _ => hno 13 (by decide)
  | succ n ih =>
    refine key _ fun a w rest k ha hk => ?_
    rw [lnk]
    by_cases h1 : (Pth.splitS (tgt l k)).2.2 ≠ 0
    · rw [if_pos h1]; exact hno _ h1
    rw [if_neg h1]
    have h1 : (Pth.splitS (tgt l k)).2.2 = 0 := by simpa using h1
    obtain ⟨h4, h5⟩ := hlink a w rest (tgt l k) ha hk h1
    by_cases h2 : (Pth.splitS (tgt l k)).2.1 = true ∧ fence = true
    · rw [if_pos h2]; exact hno 14 (by decide)
    rw [if_neg h2]
    by_cases h3 : (Pth.splitS (tgt l k)).2.1 = true
    · rw [if_pos h3]
      refine ih _ _ (h5 ?_)
      cases fence with
      | true => exact absurd ⟨h3, rfl⟩ h2
      | false => rfl
    · rw [if_neg h3]
      exact ih _ _ h4
theorem split_ne {t w : Pth.Txt} (h : w ∈ (Pth.splitS t).1) : w ≠ [] := by
  unfold Pth.splitS at h
  split at h
  · simp at h
  · split at h
    · simp at h
    · split at h
      · have h : w ∈ Pth.partsS t := h
        have := (List.mem_filter.1 h).2
        intro e
        subst e
        simp [Pth.keepT] at this
      · simp at h
theorem wk_no (l : List Ob) (base : Nat) (fence follow : Bool) (n : Nat) (todo : List Pth.Txt) (a : Nat) : (wkS l base fence follow n todo a).err ≠ 0 → wkS l base fence follow n todo a = R4.no (wkS l base fence follow n todo a).err :=
  wk_ind (fun _ _ => True) (fun r => r.err ≠ 0 → r = R4.no r.err) (fun _ _ _ => rfl) (fun _ _ h => absurd rfl h) (fun _ _ _ _ _ => trivial) (fun _ _ _ _ _ h => absurd rfl h) (fun _ _ _ _ _ h => absurd rfl h) (fun _ _ _ _ _ _ _ => trivial) (fun _ _ _ _ _ _ _ => ⟨trivial, fun _ => trivial⟩) n todo a trivial
theorem look_no (l : List Ob) (base : Int) (s : Pth.Txt) (fence follow : Bool) (h : (lookS l base s fence follow).err ≠ 0) : lookS l base s fence follow = R4.no (lookS l base s fence follow).err := by
  revert h
  unfold lookS
  split
  · split
    · intro _; rfl
    · split
      · intro _; rfl
      · split
        · intro _; rfl
        · exact wk_no _ _ _ _ _ _ _
  · intro _; rfl
/-- each directory that is gone down to has the one above it as Up -/
def TreeL (l : List Ob) : Prop := ∀ (a : Nat) (w : Pth.Txt) (k : Nat), fnd l a w = (k : Nat) → k ≠ 0 ∧ ∀ hk : k < l.length, l[k].kind = 2 → l[k].up = (a : Nat)
def BenP (l : List Ob) (base : Nat) (r : R4) : Prop := r.err = 0 → (r.name = [] → ∃ a : Nat, r.obj = a ∧ Bn l base a) ∧ (r.name ≠ [] → ∃ a : Nat, r.dir = a ∧ Bn l base a ∧ r.obj = fnd l a r.name)
theorem fnd_neg (l : List Ob) (ok : LkOK l) (a : Nat) (w : Pth.Txt) (h : fnd l a w < 0) : fnd l a w = -1 := by
  rcases findS_OK (entsO (oAt l a)) (Pth.bysL w) with ⟨e, he, _, h3⟩ | ⟨h3, _⟩
  · have := (ok.ents a).2.1 e he
    rw [fnd, h3] at h
    omega
  · exact h3
theorem wk_ben {l : List Ob} (ok : LkOK l) (tr : TreeL l) (base : Nat) (follow : Bool) (n : Nat) (todo : List Pth.Txt) (a : Nat) (ha : Bn l base a) (hw : ∀ w, w ∈ todo → w ≠ []) : BenP l base (wkS l base true follow n todo a) := by
  refine wk_ind (fun todo a => ((oAt l a).kind = 2 → Bn l base a) ∧ (todo = [] → (oAt l a).kind = 2) ∧ ∀ w, w ∈ todo → w ≠ []) (BenP l base) (fun e he => fun h => absurd h he) (fun a h _ => ?_) (fun a rest h hk hf => ?_) (fun a w h hk hn _ => ?_) (fun a w h hk hn _ => ?_) (fun a w rest h hk hr hn => ?_) (fun a w rest t h hk _ => ?_) n todo a ⟨fun _ => ha, fun _ => ?_, hw⟩
  · exact ⟨fun _ => ⟨a, rfl, h.1 (h.2.1 rfl)⟩, fun h => absurd rfl h⟩
  · have h1 := (h.1 hk).up ok (fun e => hf ⟨rfl, e⟩)
    obtain ⟨h2, h3⟩ := h1.dir
    exact ⟨fun _ => h1, fun _ => by rw [oAt_eq h2]; exact h3, fun w hw => h.2.2 w (by simp [hw])⟩
  · exact ⟨fun e => absurd e (h.2.2 w (by simp)), fun _ => ⟨a, rfl, h.1 hk, (fnd_neg l ok a w hn).symm⟩⟩
  · exact ⟨fun e => absurd e (h.2.2 w (by simp)), fun _ => ⟨a, rfl, h.1 hk, rfl⟩⟩
  · obtain ⟨k, hk1, hk2⟩ := ok.fnd_lt a w hn
    rw [hk1, Int.toNat_natCast, oAt_eq hk2]
    obtain ⟨t1, t2⟩ := tr a w k hk1
    exact ⟨fun h2 => (h.1 hk).down hk2 h2 (t2 hk2 h2) t1, fun e => absurd e hr, fun w hw => h.2.2 w (by simp [hw])⟩
  · refine ⟨⟨h.1, fun _ => hk, fun x hx => ?_⟩, fun h => by cases h⟩
    rcases List.mem_append.1 hx with hx | hx
    · exact split_ne hx
    · exact h.2.2 x (by simp [hx])
  · obtain ⟨h2, h3⟩ := ha.dir
    rw [oAt_eq h2]; exact h3
theorem look_ben {l : List Ob} (ok : LkOK l) (tr : TreeL l) (base : Int) (s : Pth.Txt) (follow : Bool) (h : (lookS l base s true follow).err = 0) : ∃ b : Nat, base = b ∧ BenP l b (lookS l base s true follow) := by
  by_cases hI : isSB l base 0 = true
  · obtain ⟨b, rfl, hb⟩ := is0_yesB hI
    refine ⟨b, rfl, ?_⟩
    rw [lookS, if_pos hI, Int.toNat_natCast, oAt_eq hb] at h ⊢
    by_cases h1 : l[b].kind ≠ 2
    · rw [if_pos h1] at h; cases h
    rw [if_neg h1] at h ⊢
    have h1 : l[b].kind = 2 := by simpa using h1
    by_cases h2 : (Pth.splitS s).2.2 ≠ 0
    · rw [if_pos h2] at h; exact absurd h h2
    rw [if_neg h2] at h ⊢
    by_cases h3 : (Pth.splitS s).2.1 = true
    · rw [if_pos ⟨h3, rfl⟩] at h; cases h
    rw [if_neg (fun e => h3 e.1), if_neg h3] at h ⊢
    exact wk_ben ok tr b follow 6 _ b (Bn.base hb h1) fun w hw => split_ne hw
  · rw [lookS, if_neg hI] at h; cases h
/-! inside as outside -/
theorem wk_same (l : List Ob) (base : Nat) (follow : Bool) : ∀ (n : Nat) (todo : List Pth.Txt) (a : Nat), wkS l base true follow n todo a = wkS l base false follow n todo a ∨ (wkS l base true follow n todo a).err = 14 := by
  have key : ∀ r1 r2 : Nat → List Pth.Txt → Nat → R4, (∀ a rest k, r1 a rest k = r2 a rest k ∨ (r1 a rest k).err = 14) → ∀ (todo : List Pth.Txt) (a : Nat), wk1 l base true follow r1 todo a = wk1 l base false follow r2 todo a ∨ (wk1 l base true follow r1 todo a).err = 14 := by
    intro r1 r2 hr todo
    induction todo with
    | nil => intro a; exact .inl rfl
    | cons w rest ih =>
      intro a
      rw [wk1, wk1]
      by_cases hk : (oAt l a).kind ≠ 2
      · rw [if_pos hk, if_pos hk]; exact .inl rfl
      rw [if_neg hk, if_neg hk]
      by_cases hw : w = [46, 46]
      · rw [if_pos hw, if_pos hw, if_neg (c := false = true ∧ a = base) (by simp)]
        by_cases ha : a = base
        · rw [if_pos ⟨rfl, ha⟩]; exact .inr rfl
        · rw [if_neg (fun h => ha h.2)]; exact ih _
      rw [if_neg hw, if_neg hw]
      by_cases hn : fnd l a w < 0
      · rw [if_pos hn, if_pos hn]; exact .inl rfl
      rw [if_neg hn, if_neg hn]
      by_cases h3 : (oAt l (fnd l a w).toNat).kind = 3 ∧ (follow = true ∨ rest ≠ [])
      · rw [if_pos h3, if_pos h3]; exact hr _ _ _
      rw [if_neg h3, if_neg h3]
      by_cases hr : rest = []
      · rw [if_pos hr, if_pos hr]; exact .inl rfl
      · rw [if_neg hr, if_neg hr]; exact ih _
  intro n
  induction n with
  | zero => exact key _ _ fun _ _ _ => .inl rfl
  | succ n ih =>
    refine key _ _ fun a rest k => ?_
    rw [lnk, lnk]
    by_cases h1 : (Pth.splitS (tgt l k)).2.2 ≠ 0
    · rw [if_pos h1, if_pos h1]; exact .inl rfl
    rw [if_neg h1, if_neg h1, if_neg (c := _ ∧ false = true) (by simp)]
    by_cases h3 : (Pth.splitS (tgt l k)).2.1 = true
    · rw [if_pos ⟨h3, rfl⟩]; exact .inr rfl
    · rw [if_neg (fun h => h3 h.1), if_neg h3]; exact ih _ _
theorem look_same (l : List Ob) (base : Int) (s : Pth.Txt) (follow : Bool) : lookS l base s true follow = lookS l base s false follow ∨ (lookS l base s true follow).err = 14 := by
  unfold lookS
  by_cases hI : isSB l base 0 = true
  · rw [if_pos hI, if_pos hI]
    by_cases h1 : (oAt l base.toNat).kind ≠ 2
    · rw [if_pos h1, if_pos h1]; exact .inl rfl
    rw [if_neg h1, if_neg h1]
    by_cases h2 : (Pth.splitS s).2.2 ≠ 0
    · rw [if_pos h2, if_pos h2]; exact .inl rfl
    rw [if_neg h2, if_neg h2, if_neg (c := _ ∧ false = true) (by simp)]
    by_cases h3 : (Pth.splitS s).2.1 = true
    · rw [if_pos ⟨h3, rfl⟩]; exact .inr rfl
    · rw [if_neg (fun h => h3 h.1), if_neg h3]; exact wk_same _ _ _ _ _ _
  · rw [if_neg hI, if_neg hI]; exact .inl rfl
theorem GoodK.tree {l : List Obj} {op : List Opn} {ps : List Prc} (h : GoodK l op ps) : TreeL (l.map Obj.ob) ∧ ∀ (a : Nat) (w : Pth.Txt), ¬ fnd (l.map Obj.ob) a w < 0 → w.length ≤ 1 := by
  have ht := h.tr
  rw [← tri_eq] at ht
  generalize l.map Obj.ob = k at ht
  have key : ∀ (a : Nat) (w : Pth.Txt), ¬ fnd k a w < 0 → ∃ (x : Ob) (e : NE), k[a]? = some x ∧ e ∈ x.entries.map unE ∧ e.1.toList = w ∧ fnd k a w = e.2 := by
    intro a w hn
    unfold fnd at hn ⊢
    rcases findS_OK (entsO (oAt k a)) (Pth.bysL w) with ⟨e, he, h2, h3⟩ | ⟨h3, _⟩
    · unfold entsO oAt at he
      cases hx : k[a]? with
      | none => rw [hx] at he; simp [obZ] at he
      | some x =>
        rw [hx] at he
        exact ⟨x, e, rfl, he, by rw [h2, Pth.bysL_toList], h3⟩
    · rw [h3] at hn; omega
  refine ⟨fun a w n hf => ?_, fun a w hn => ?_⟩
  · obtain ⟨x, e, hx, he, _, h3⟩ := key a w (by rw [hf]; omega)
    obtain ⟨h4, h5⟩ := ht.tr a x.tri (by rw [List.getElem?_map, hx]; rfl) e he
    have hen : e.2 = (n : Int) := by omega
    refine ⟨fun h0 => h4 (by rw [hen, h0]; rfl), fun hk h2 => ?_⟩
    exact h5 k[n].tri (by rw [hen, Int.toNat_natCast, List.getElem?_map, List.getElem?_eq_getElem hk]; rfl) h2
  · obtain ⟨x, e, hx, he, h2, _⟩ := key a w hn
    have := ht.sz x.tri (List.mem_map.2 ⟨x, List.mem_of_getElem? hx, rfl⟩) e he
    rw [← h2]
    have h6 : e.1.toList.length = e.1.size := by
      obtain ⟨t, ht⟩ := Pth.bysL_of e.1
      rw [ht, Pth.bysL_toList, Pth.bysL_size]
    omega

def c4 : LF := ⟨54, [.tmp 8], (.seq (.reg [
    ⟨(some 8), .mov (.c (.rv (.one (.dat (.val (.bool false)))))), none⟩]) (.seq (.seq (.reg [
    ⟨(some 12), .call (.c (.rv (.one (.fn 13 [])))) [], none⟩,
    ⟨(some 13), .un .not (.t 12), none⟩]) (.cond (.t 13) (.seq (.reg [
    ⟨(some 8), .mov (.c (.rv (.one (.dat (.val (.bool false)))))), none⟩]) .ret) .skip)) (.seq (.reg [
    ⟨(some 14), .mov (.t 0), none⟩,
    ⟨(some 15), .call (.c (.rv (.one (.fn 8 [])))) [(.t 14)], none⟩,
    ⟨(some 16), .fld false 0 1 (.t 15), none⟩,
    ⟨(some 9), .mov (.t 16), none⟩]) (.seq (.reg [
    ⟨(some 18), .mov (.t 9), none⟩,
    ⟨(some 19), .mov (.t 1), none⟩,
    ⟨(some 20), .mov (.t 2), none⟩,
    ⟨(some 21), .mov (.t 3), none⟩,
    ⟨(some 22), .call (.c (.rv (.one (.fn 9 [])))) [(.t 18), (.t 19), (.t 20), (.c (.rv (.one (.dat (.val (.bool true)))))), (.t 21)], none⟩,
    ⟨(some 17), .mov (.t 22), none⟩,
    ⟨(some 23), .ext (.t 17) 0, none⟩,
    ⟨(some 24), .ext (.t 17) 1, none⟩,
    ⟨(some 10), .alloc [(.dat (.val (.int .i64 (0)))), (.dat (.val (.int .i64 (0)))), (.dat (.val (.string ⟨#[]⟩)))], none⟩,
    ⟨none, .store 3 (.t 10) (.t 23), none⟩,
    ⟨(some 11), .mov (.t 24), none⟩]) (.seq (.seq (.reg [
    ⟨(some 25), .mov (.t 11), none⟩,
    ⟨(some 26), .bin .neq (.t 25) (.c (.rv (.one (.dat (.val (.int .i64 (0))))))), none⟩]) (.cond (.t 26) (.seq (.reg [
    ⟨(some 27), .load true 3 (.t 10), none⟩,
    ⟨(some 28), .build [(.dat (.val (.int .i64 (0)))), (.dat (.val (.int .i64 (0)))), (.dat (.val (.string ⟨#[]⟩)))] [], none⟩,
    ⟨(some 29), .eqa false [.i, .i, .s] (.t 27) (.t 28), none⟩,
    ⟨(some 8), .mov (.t 29), none⟩]) .ret) .skip)) (.seq (.seq (.reg [
    ⟨(some 30), .fadr 2 (.t 10), none⟩,
    ⟨(some 31), .load false 1 (.t 30), none⟩,
    ⟨(some 32), .bin .eql (.t 31) (.c (.rv (.one (.dat (.val (.string ⟨#[]⟩)))))), none⟩]) (.cond (.t 32) (.seq (.reg [
    ⟨(some 33), .mov (.t 9), none⟩,
    ⟨(some 34), .fadr 0 (.t 10), none⟩,
    ⟨(some 35), .load false 1 (.t 34), none⟩,
    ⟨(some 36), .mov (.t 1), none⟩,
    ⟨(some 37), .call (.c (.rv (.one (.fn 12 [])))) [(.t 33), (.t 35), (.t 36)], none⟩,
    ⟨(some 8), .mov (.t 37), none⟩]) .ret) .skip)) (.seq (.draw [
    ⟨(some 38), .mov (.t 9), none⟩,
    ⟨(some 39), .fadr 1 (.t 10), none⟩,
    ⟨(some 40), .load false 1 (.t 39), none⟩,
    ⟨(some 41), .mov (.t 1), none⟩,
    ⟨(some 42), .call (.c (.rv (.one (.fn 12 [])))) [(.t 38), (.t 40), (.t 41)], none⟩,
    ⟨(some 43), .mov (.t 42), none⟩,
    ⟨(some 44), .fadr 0 (.t 10), (some (43, true))⟩,
    ⟨(some 45), .load false 1 (.t 44), (some (43, true))⟩,
    ⟨(some 46), .mov (.t 9), (some (43, true))⟩,
    ⟨(some 47), .fadr 1 (.t 10), (some (43, true))⟩,
    ⟨(some 48), .load false 1 (.t 47), (some (43, true))⟩,
    ⟨(some 49), .fadr 2 (.t 10), (some (43, true))⟩,
    ⟨(some 50), .load false 1 (.t 49), (some (43, true))⟩,
    ⟨(some 51), .call (.c (.rv (.one (.fn 14 [])))) [(.t 46), (.t 48), (.t 50)], (some (43, true))⟩,
    ⟨(some 52), .bin .eql (.t 45) (.t 51), (some (43, true))⟩,
    ⟨(some 53), .pick (.t 43) (.t 52) (.c (.rv (.one (.dat (.val (.bool false)))))), none⟩,
    ⟨(some 8), .mov (.t 53), none⟩]
    [(.cons 0 none (.cons 1 none (.cons 2 none (.cons 3 none (.cons 4 (some []) (.cons 5 none (.cons 6 none (.cons 7 none (.cons 8 none (.cons 9 none (.cons 10 none (.cons 11 none (.cons 12 none (.cons 13 (some [7]) (.cons 14 none (.cons 15 none (.cons 16 none .nil)))))))))))))))))]) .ret)))))))⟩
def c5 : LF := ⟨51, [.tmp 8], (.seq (.reg [
    ⟨(some 8), .mov (.c (.rv (.one (.dat (.val (.bool false)))))), none⟩]) (.seq (.seq (.reg [
    ⟨(some 14), .call (.c (.rv (.one (.fn 13 [])))) [], none⟩,
    ⟨(some 15), .un .not (.t 14), none⟩]) (.cond (.t 15) (.seq (.reg [
    ⟨(some 8), .mov (.c (.rv (.one (.dat (.val (.bool false)))))), none⟩]) .ret) .skip)) (.seq (.reg [
    ⟨(some 16), .mov (.t 0), none⟩,
    ⟨(some 17), .call (.c (.rv (.one (.fn 8 [])))) [(.t 16)], none⟩,
    ⟨(some 18), .fld false 0 1 (.t 17), none⟩,
    ⟨(some 9), .mov (.t 18), none⟩]) (.seq (.reg [
    ⟨(some 20), .mov (.t 9), none⟩,
    ⟨(some 21), .mov (.t 1), none⟩,
    ⟨(some 22), .mov (.t 2), none⟩,
    ⟨(some 23), .mov (.t 3), none⟩,
    ⟨(some 24), .call (.c (.rv (.one (.fn 9 [])))) [(.t 20), (.t 21), (.t 22), (.c (.rv (.one (.dat (.val (.bool true)))))), (.t 23)], none⟩,
    ⟨(some 19), .mov (.t 24), none⟩,
    ⟨(some 25), .ext (.t 19) 0, none⟩,
    ⟨(some 26), .ext (.t 19) 1, none⟩,
    ⟨(some 10), .alloc [(.dat (.val (.int .i64 (0)))), (.dat (.val (.int .i64 (0)))), (.dat (.val (.string ⟨#[]⟩)))], none⟩,
    ⟨none, .store 3 (.t 10) (.t 25), none⟩,
    ⟨(some 11), .mov (.t 26), none⟩]) (.seq (.reg [
    ⟨(some 28), .mov (.t 9), none⟩,
    ⟨(some 29), .mov (.t 1), none⟩,
    ⟨(some 30), .mov (.t 2), none⟩,
    ⟨(some 31), .mov (.t 3), none⟩,
    ⟨(some 32), .call (.c (.rv (.one (.fn 9 [])))) [(.t 28), (.t 29), (.t 30), (.c (.rv (.one (.dat (.val (.bool false)))))), (.t 31)], none⟩,
    ⟨(some 27), .mov (.t 32), none⟩,
    ⟨(some 33), .ext (.t 27) 0, none⟩,
    ⟨(some 34), .ext (.t 27) 1, none⟩,
    ⟨(some 12), .alloc [(.dat (.val (.int .i64 (0)))), (.dat (.val (.int .i64 (0)))), (.dat (.val (.string ⟨#[]⟩)))], none⟩,
    ⟨none, .store 3 (.t 12) (.t 33), none⟩,
    ⟨(some 13), .mov (.t 34), none⟩]) (.seq (.seq (.reg [
    ⟨(some 35), .mov (.t 11), none⟩,
    ⟨(some 36), .bin .eql (.t 35) (.c (.rv (.one (.dat (.val (.int .i64 (0))))))), none⟩]) (.cond (.t 36) (.seq (.reg [
    ⟨(some 37), .mov (.t 13), none⟩,
    ⟨(some 38), .bin .eql (.t 37) (.c (.rv (.one (.dat (.val (.int .i64 (0))))))), none⟩,
    ⟨(some 39), .mov (.t 38), none⟩,
    ⟨(some 40), .load true 3 (.t 10), (some (39, true))⟩,
    ⟨(some 41), .load true 3 (.t 12), (some (39, true))⟩,
    ⟨(some 42), .eqa false [.i, .i, .s] (.t 40) (.t 41), (some (39, true))⟩,
    ⟨(some 43), .pick (.t 39) (.t 42) (.c (.rv (.one (.dat (.val (.bool false)))))), none⟩,
    ⟨(some 8), .mov (.t 43), none⟩]) .ret) .skip)) (.seq (.reg [
    ⟨(some 44), .mov (.t 11), none⟩,
    ⟨(some 45), .bin .eql (.t 44) (.c (.rv (.one (.dat (.val (.int .i64 (14))))))), none⟩,
    ⟨(some 46), .mov (.t 45), none⟩,
    ⟨(some 47), .mov (.t 11), (some (46, false))⟩,
    ⟨(some 48), .mov (.t 13), (some (46, false))⟩,
    ⟨(some 49), .bin .eql (.t 47) (.t 48), (some (46, false))⟩,
    ⟨(some 50), .pick (.t 46) (.c (.rv (.one (.dat (.val (.bool true)))))) (.t 49), none⟩,
    ⟨(some 8), .mov (.t 50), none⟩]) .ret)))))))⟩
/-! LookBeneath, LookSame -/
theorem l4 : lowF Tryd.prog Tryd.f4 = some c4 := by kernel_rfl
theorem l5 : lowF Tryd.prog Tryd.f5 = some c5 := by kernel_rfl
set_option maxRecDepth 100000 in
set_option maxHeartbeats 8000000 in
theorem lbeneath_body (b : List Int) (hb : BYb b) (base : Int) (s : Pth.Txt) (follow : Bool) :
    body Tryd.prog c4 [.rv (.one (.dat (.sl 1 (byD b)))), vInt .i64 base, Pth.vT s, vBool follow] [] (fun r m => r = vBool true) := by
  refine alive_ok ?_
  refine build_ok b hb fun l op ps hk => ?_
  have ok := hk.lk
  have tr := hk.tree.1
  have hl := ok.len
  unfold kernV
  rw [obs_eq]
  generalize l.map Obj.ob = k at ok hl tr
  refine path_ok k ok base s true follow ?_
  have hno := look_no k base s true follow
  have hbn := look_ben ok tr base s follow
  generalize lookS k base s true follow = r at hno hbn
  refine bB_bne (fun h1 => ?_) (fun h1 => ?_)
  · have h1 : r.err ≠ 0 := h1
    have e0 := hno h1
    have e1 : r.obj = 0 := by rw [e0]; rfl
    have e2 : r.dir = 0 := by rw [e0]; rfl
    have e3 : r.name = [] := by rw [e0]; rfl
    show vBool _ = vBool true
    rw [e1, e2, e3]
    simp [Pth.bysL_toList]
  have h1 : r.err = 0 := by simpa using h1
  obtain ⟨n, rfl, hP⟩ := hbn h1
  obtain ⟨hP1, hP2⟩ := hP h1
  refine Pth.bB_str (b := []) (fun h2 => ?_) (fun h2 => ?_)
  · obtain ⟨a, h3, F, h4⟩ := hP1 h2
    rw [h3]
    refine rben_ok k (by omega) (a : Nat) (n : Nat) ?_
    rw [bn_any h4]
    exact rfl
  · obtain ⟨a, h3, h4, h5⟩ := hP2 h2
    rw [h3, h5]
    refine rben_ok k (by omega) (a : Nat) (n : Nat) ?_
    obtain ⟨ha, hk2⟩ := h4.dir
    obtain ⟨F, h4⟩ := h4
    rw [bn_any h4]
    refine ⟨trivial, ?_⟩
    refine rfind_ok k ok a ha hk2 r.name ?_
    refine ⟨⟨rfl, trivial⟩, ?_⟩
    show vBool _ = vBool true
    simp
set_option maxRecDepth 100000 in
theorem lbeneath_ok (b : List Int) (hb : BYb b) (base : Int) (s : Pth.Txt) (follow : Bool) :
    ACall Tryd.prog 4 [.rv (.one (.dat (.sl 1 (byD b)))), vInt .i64 base, Pth.vT s, vBool follow] [] (fun r m => r = vBool true) :=
  acall_body Tryd.func4 l4 rfl (Nat.le_of_ble_eq_true rfl) (lbeneath_body b hb base s follow)
set_option maxRecDepth 100000 in
set_option maxHeartbeats 8000000 in
theorem lsame_body (b : List Int) (hb : BYb b) (base : Int) (s : Pth.Txt) (follow : Bool) :
    body Tryd.prog c5 [.rv (.one (.dat (.sl 1 (byD b)))), vInt .i64 base, Pth.vT s, vBool follow] [] (fun r m => r = vBool true) := by
  refine alive_ok ?_
  refine build_ok b hb fun l op ps hk => ?_
  have ok := hk.lk
  unfold kernV
  rw [obs_eq]
  generalize l.map Obj.ob = k at ok
  refine path_ok k ok base s true follow ?_
  refine path_ok k ok base s false follow ?_
  have hs := look_same k base s follow
  generalize lookS k base s true follow = r at hs
  generalize lookS k base s false follow = r' at hs
  refine bB_beq (fun h1 => ?_) (fun h1 => ?_)
  · have h1 : r.err = 0 := h1
    rcases hs with rfl | h2
    · refine bB_yes (by simp [h1]) ?_
      show vBool _ = vBool true
      simp
    · omega
  · have h1 : r.err ≠ 0 := h1
    refine bB_beq (fun h2 => ?_) (fun h2 => ?_)
    · exact rfl
    · have h2 : r.err ≠ 14 := h2
      rcases hs with rfl | h3
      · show vBool _ = vBool true
        simp
      · exact absurd h3 h2
set_option maxRecDepth 100000 in
theorem lsame_ok (b : List Int) (hb : BYb b) (base : Int) (s : Pth.Txt) (follow : Bool) :
    ACall Tryd.prog 5 [.rv (.one (.dat (.sl 1 (byD b)))), vInt .i64 base, Pth.vT s, vBool follow] [] (fun r m => r = vBool true) :=
  acall_body Tryd.func5 l5 rfl (Nat.le_of_ble_eq_true rfl) (lsame_body b hb base s follow)

def c6 : LF := ⟨104, [.tmp 6], (.seq (.reg [
    ⟨(some 6), .mov (.c (.rv (.one (.dat (.val (.bool false)))))), none⟩]) (.seq (.seq (.reg [
    ⟨(some 14), .call (.c (.rv (.one (.fn 13 [])))) [], none⟩,
    ⟨(some 15), .un .not (.t 14), none⟩]) (.cond (.t 15) (.seq (.reg [
    ⟨(some 6), .mov (.c (.rv (.one (.dat (.val (.bool false)))))), none⟩]) .ret) .skip)) (.seq (.reg [
    ⟨(some 16), .mov (.t 0), none⟩,
    ⟨(some 17), .call (.c (.rv (.one (.fn 8 [])))) [(.t 16)], none⟩,
    ⟨(some 18), .fld false 0 1 (.t 17), none⟩,
    ⟨(some 7), .mov (.t 18), none⟩]) (.seq (.seq (.reg [
    ⟨(some 19), .mov (.t 2), none⟩,
    ⟨(some 20), .len 1 (.t 19), none⟩,
    ⟨(some 21), .bin .lss (.t 20) (.c (.rv (.one (.dat (.val (.int .i64 (1))))))), none⟩,
    ⟨(some 22), .mov (.t 21), none⟩,
    ⟨(some 23), .mov (.t 2), (some (22, false))⟩,
    ⟨(some 24), .len 1 (.t 23), (some (22, false))⟩,
    ⟨(some 25), .bin .gtr (.t 24) (.c (.rv (.one (.dat (.val (.int .i64 (6))))))), (some (22, false))⟩,
    ⟨(some 26), .pick (.t 22) (.c (.rv (.one (.dat (.val (.bool true)))))) (.t 25), none⟩,
    ⟨(some 27), .mov (.t 26), none⟩,
    ⟨(some 28), .mov (.t 7), (some (27, false))⟩,
    ⟨(some 29), .mov (.t 1), (some (27, false))⟩,
    ⟨(some 30), .call (.c (.rv (.one (.fn 15 [])))) [(.t 28), (.t 29), (.c (.rv (.one (.dat (.val (.int .i64 (2)))))))], (some (27, false))⟩,
    ⟨(some 31), .un .not (.t 30), (some (27, false))⟩,
    ⟨(some 32), .pick (.t 27) (.c (.rv (.one (.dat (.val (.bool true)))))) (.t 31), none⟩]) (.cond (.t 32) (.seq (.reg [
    ⟨(some 6), .mov (.c (.rv (.one (.dat (.val (.bool true)))))), none⟩]) .ret) .skip)) (.seq (.reg [
    ⟨(some 33), .mov (.t 1), none⟩,
    ⟨(some 8), .mov (.t 33), none⟩]) (.seq (.seq (.reg [
    ⟨(some 34), .mov (.t 2), none⟩,
    ⟨(some 35), .len 1 (.t 34), none⟩,
    ⟨(some 36), .mov (.c (.rv (.one (.dat (.val (.int .i64 (0))))))), none⟩]) (.block 0 (.loop (.seq (.reg [
    ⟨(some 37), .bin .lss (.t 36) (.t 35), none⟩]) (.seq (.cond (.t 37) .skip (.exit 0)) (.seq (.block 1 (.seq (.reg [
    ⟨(some 38), .mov (.t 36), none⟩,
    ⟨(some 39), .idx 1 (.t 34) (.t 36), none⟩,
    ⟨(some 40), .load false 1 (.t 39), none⟩,
    ⟨(some 9), .mov (.t 38), none⟩,
    ⟨(some 10), .mov (.t 40), none⟩]) (.seq (.reg [
    ⟨(some 41), .mov (.t 7), none⟩,
    ⟨(some 42), .mov (.t 8), none⟩,
    ⟨(some 43), .mov (.t 10), none⟩,
    ⟨(some 44), .call (.c (.rv (.one (.fn 14 [])))) [(.t 41), (.t 42), (.t 43)], none⟩,
    ⟨(some 11), .mov (.t 44), none⟩]) (.seq (.seq (.reg [
    ⟨(some 45), .mov (.t 10), none⟩,
    ⟨(some 46), .call (.c (.rv (.one (.fn 16 [])))) [(.t 45)], none⟩,
    ⟨(some 47), .un .not (.t 46), none⟩,
    ⟨(some 48), .mov (.t 47), none⟩,
    ⟨(some 49), .mov (.t 11), (some (48, false))⟩,
    ⟨(some 50), .bin .lss (.t 49) (.c (.rv (.one (.dat (.val (.int .i64 (0))))))), (some (48, false))⟩,
    ⟨(some 51), .pick (.t 48) (.c (.rv (.one (.dat (.val (.bool true)))))) (.t 50), none⟩,
    ⟨(some 52), .mov (.t 51), none⟩,
    ⟨(some 53), .mov (.t 7), (some (52, false))⟩,
    ⟨(some 54), .mov (.t 11), (some (52, false))⟩,
    ⟨(some 55), .idx 9 (.t 53) (.t 54), (some (52, false))⟩,
    ⟨(some 56), .fadr 0 (.t 55), (some (52, false))⟩,
    ⟨(some 57), .load false 1 (.t 56), (some (52, false))⟩,
    ⟨(some 58), .bin .eql (.t 57) (.c (.rv (.one (.dat (.val (.int .i64 (3))))))), (some (52, false))⟩,
    ⟨(some 59), .pick (.t 52) (.c (.rv (.one (.dat (.val (.bool true)))))) (.t 58), none⟩,
    ⟨(some 60), .mov (.t 59), none⟩,
    ⟨(some 61), .mov (.t 7), (some (60, false))⟩,
    ⟨(some 62), .mov (.t 11), (some (60, false))⟩,
    ⟨(some 63), .idx 9 (.t 61) (.t 62), (some (60, false))⟩,
    ⟨(some 64), .fadr 0 (.t 63), (some (60, false))⟩,
    ⟨(some 65), .load false 1 (.t 64), (some (60, false))⟩,
    ⟨(some 66), .bin .neq (.t 65) (.c (.rv (.one (.dat (.val (.int .i64 (2))))))), (some (60, false))⟩,
    ⟨(some 67), .mov (.t 66), (some (60, false))⟩,
    ⟨(some 68), .mov (.t 9), (some (67, true))⟩,
    ⟨(some 69), .mov (.t 2), (some (67, true))⟩,
    ⟨(some 70), .len 1 (.t 69), (some (67, true))⟩,
    ⟨(some 71), .bin .sub (.t 70) (.c (.rv (.one (.dat (.val (.int .i64 (1))))))), (some (67, true))⟩,
    ⟨(some 72), .bin .lss (.t 68) (.t 71), (some (67, true))⟩,
    ⟨(some 73), .pick (.t 67) (.t 72) (.c (.rv (.one (.dat (.val (.bool false)))))), (some (60, false))⟩,
    ⟨(some 74), .pick (.t 60) (.c (.rv (.one (.dat (.val (.bool true)))))) (.t 73), none⟩]) (.cond (.t 74) (.seq (.reg [
    ⟨(some 6), .mov (.c (.rv (.one (.dat (.val (.bool true)))))), none⟩]) .ret) .skip)) (.reg [
    ⟨(some 75), .mov (.t 11), none⟩,
    ⟨(some 8), .mov (.t 75), none⟩]))))) (.reg [
    ⟨(some 76), .bin .add (.t 36) (.c (.rv (.one (.dat (.val (.int .i64 (1))))))), none⟩,
    ⟨(some 36), .mov (.t 76), none⟩]))))))) (.seq (.reg [
    ⟨(some 78), .mov (.t 7), none⟩,
    ⟨(some 79), .mov (.t 1), none⟩,
    ⟨(some 80), .mov (.t 2), none⟩,
    ⟨(some 81), .call (.c (.rv (.one (.fn 17 [])))) [(.t 80), (.c (.rv (.one (.dat (.val (.bool false))))))], none⟩,
    ⟨(some 82), .call (.c (.rv (.one (.fn 9 [])))) [(.t 78), (.t 79), (.t 81), (.c (.rv (.one (.dat (.val (.bool true)))))), (.c (.rv (.one (.dat (.val (.bool true))))))], none⟩,
    ⟨(some 77), .mov (.t 82), none⟩,
    ⟨(some 83), .ext (.t 77) 0, none⟩,
    ⟨(some 84), .ext (.t 77) 1, none⟩,
    ⟨(some 12), .alloc [(.dat (.val (.int .i64 (0)))), (.dat (.val (.int .i64 (0)))), (.dat (.val (.string ⟨#[]⟩)))], none⟩,
    ⟨none, .store 3 (.t 12) (.t 83), none⟩,
    ⟨(some 13), .mov (.t 84), none⟩]) (.seq (.draw [
    ⟨(some 85), .mov (.t 13), none⟩,
    ⟨(some 86), .bin .eql (.t 85) (.c (.rv (.one (.dat (.val (.int .i64 (0))))))), none⟩,
    ⟨(some 87), .mov (.t 86), none⟩,
    ⟨(some 88), .fadr 0 (.t 12), (some (87, true))⟩,
    ⟨(some 89), .load false 1 (.t 88), (some (87, true))⟩,
    ⟨(some 90), .mov (.t 8), (some (87, true))⟩,
    ⟨(some 91), .bin .eql (.t 89) (.t 90), (some (87, true))⟩,
    ⟨(some 92), .pick (.t 87) (.t 91) (.c (.rv (.one (.dat (.val (.bool false)))))), none⟩,
    ⟨(some 93), .mov (.t 92), none⟩,
    ⟨(some 94), .fadr 2 (.t 12), (some (93, true))⟩,
    ⟨(some 95), .load false 1 (.t 94), (some (93, true))⟩,
    ⟨(some 96), .mov (.t 2), (some (93, true))⟩,
    ⟨(some 97), .mov (.t 2), (some (93, true))⟩,
    ⟨(some 98), .len 1 (.t 97), (some (93, true))⟩,
    ⟨(some 99), .bin .sub (.t 98) (.c (.rv (.one (.dat (.val (.int .i64 (1))))))), (some (93, true))⟩,
    ⟨(some 100), .idx 1 (.t 96) (.t 99), (some (93, true))⟩,
    ⟨(some 101), .load false 1 (.t 100), (some (93, true))⟩,
    ⟨(some 102), .bin .eql (.t 95) (.t 101), (some (93, true))⟩,
    ⟨(some 103), .pick (.t 93) (.t 102) (.c (.rv (.one (.dat (.val (.bool false)))))), none⟩,
    ⟨(some 6), .mov (.t 103), none⟩]
    [(.cons 0 none (.cons 1 none (.cons 2 none (.cons 3 none (.cons 4 none (.cons 5 none (.cons 6 none (.cons 7 none (.cons 8 none (.cons 9 none (.cons 10 none (.cons 11 none (.cons 12 none (.cons 13 none (.cons 14 none (.cons 15 none (.cons 16 none (.cons 17 none (.cons 18 none (.cons 19 none .nil))))))))))))))))))))]) .ret))))))))⟩
/-! LookStep -/
namespace Pth
theorem cutL_none' {c : UInt8} : ∀ {x : Txt}, c ∉ x → cutL c x = [x]
  | [], _ => rfl
  | y :: r, h => by
    have h1 : y ≠ c := fun e => h (by simp [e])
    have h2 : c ∉ r := fun e => h (by simp [e])
    simp only [cutL, cutL_none' h2]
    simp [h1]
theorem cutL_app {c : UInt8} : ∀ {x : Txt} (y : Txt), c ∉ x → cutL c (x ++ c :: y) = x :: cutL c y
  | [], y, _ => by simp [cutL]
  | z :: r, y, h => by
    have h1 : z ≠ c := fun e => h (by simp [e])
    have h2 : c ∉ r := fun e => h (by simp [e])
    simp only [List.cons_append, cutL, cutL_app y h2]
    simp [h1]
theorem cut_tail {c : UInt8} : ∀ {r : List Txt} {x : Txt}, c ∉ x → (∀ w, w ∈ r → c ∉ w) → cutL c (x ++ joinTl [c] r) = x :: r
  | [], x, hx, _ => by
    have : joinTl [c] [] = [] := rfl
    rw [this, List.append_nil]
    exact cutL_none' hx
  | w :: r, x, hx, h => by
    have : joinTl [c] (w :: r) = c :: (w ++ joinTl [c] r) := by simp [joinTl]
    rw [this, cutL_app _ hx, cut_tail (h w (by simp)) fun v hv => h v (by simp [hv])]
theorem nameOk_sl {w : Txt} (h : nameOk w = true) : 47 ∉ w := by
  intro hm
  obtain ⟨k, hk, he⟩ := List.mem_iff_getElem.1 hm
  have := nameOk_bad hk (by rw [he]; decide)
  rw [this] at h
  cases h
theorem nameOk_ne {w : Txt} (h : nameOk w = true) : w ≠ [] ∧ w ≠ [46] ∧ w ≠ [46, 46] := by
  simp only [nameOk, Bool.and_eq_true, decide_eq_true_eq] at h
  obtain ⟨⟨⟨⟨h1, _⟩, h3⟩, h4⟩, _⟩ := h
  exact ⟨fun e => by rw [e] at h1; simp at h1, h3, h4⟩
theorem tl_len : ∀ {r : List Txt}, (∀ w, w ∈ r → w.length ≤ 1) → (joinTl [47] r).length ≤ 2 * r.length
  | [], _ => by simp [joinTl]
  | w :: r, h => by
    have h1 := h w (by simp)
    have h2 := tl_len (r := r) fun v hv => h v (by simp [hv])
    have : joinTl [47] (w :: r) = 47 :: (w ++ joinTl [47] r) := by simp [joinTl]
    rw [this, List.length_cons, List.length_append, List.length_cons]
    omega
theorem split_join {l : List Txt} (h0 : l ≠ []) (h6 : l.length ≤ 6) (hn : ∀ w, w ∈ l → nameOk w = true ∧ w.length ≤ 1) : splitS (pathS l false) = (l, false, 0) := by
  obtain ⟨x, r, rfl⟩ : ∃ x r, l = x :: r := by
    cases l with
    | nil => exact absurd rfl h0
    | cons x r => exact ⟨x, r, rfl⟩
  have hx := hn x (by simp)
  obtain ⟨c, y, rfl⟩ : ∃ c y, x = c :: y := by
    cases x with
    | nil => exact absurd rfl (nameOk_ne hx.1).1
    | cons c y => exact ⟨c, y, rfl⟩
  have hj : joinT [47] ((c :: y) :: r) ≠ [] := by simp [joinT]
  rw [pathS, if_neg (by simp), if_neg hj]
  have hcut : cutL 47 (joinT [47] ((c :: y) :: r)) = (c :: y) :: r := cut_tail (nameOk_sl hx.1) fun w hw => nameOk_sl (hn w (by simp [hw])).1
  have hlen : (joinT [47] ((c :: y) :: r)).length ≤ 60 := by
    have := tl_len (r := r) fun w hw => (hn w (by simp [hw])).2
    have h1 := hx.2
    show ((c :: y) ++ joinTl [47] r).length ≤ 60
    rw [List.length_append]
    simp only [List.length_cons] at h6 h1 ⊢
    omega
  have hg : ((c :: y) :: r).all goodT = true := List.all_eq_true.2 fun w hw => by simp [goodT, (hn w hw).1]
  have hf : ((c :: y) :: r).filter keepT = (c :: y) :: r := List.filter_eq_self.2 fun w hw => by
    have := nameOk_ne (hn w hw).1
    simp [keepT, this.1, this.2.1]
  have h47 : c ≠ 47 := fun e => nameOk_sl hx.1 (by simp [e])
  unfold splitS partsS
  rw [if_neg hj, if_neg (by omega), hcut, if_pos hg, hf]
  simp [joinT, h47]
end Pth
theorem l6 : lowF Tryd.prog Tryd.f6 = some c6 := by kernel_rfl
theorem lastI {i n : Nat} (h : i < n) (h2 : ¬ (i : Int) < ((n - 1 : Nat) : Int)) : i + 1 = n := by omega
structure StS where
  i : Nat
  a : Nat
theorem drop_at {l : List Pth.Txt} {i : Nat} (h : i < l.length) : l.drop i = l[i] :: l.drop (i + 1) := List.drop_eq_getElem_cons h
/-- as far as one has come -/
structure StepJ (k : List Ob) (b : Nat) (parts : List Pth.Txt) (s : StS) : Prop where
  le : s.i ≤ parts.length
  nm : ∀ (j : Nat) w, j < s.i → parts[j]? = some w → Pth.nameOk w = true ∧ w.length ≤ 1
  at' : s.i < parts.length → (∃ h : s.a < k.length, k[s.a].kind = 2) ∧ wkS k b true true 6 (parts.drop s.i) s.a = wkS k b true true 6 parts b
  fin : s.i = parts.length → ∃ d w, parts[parts.length - 1]? = some w ∧ wkS k b true true 6 parts b = ⟨(s.a : Nat), d, w, 0⟩
theorem StepJ.next {k : List Ob} {b : Nat} {parts : List Pth.Txt} {i a n : Nat} (h : StepJ k b parts ⟨i, a⟩) (hi : i < parts.length) (hn : Pth.nameOk parts[i] = true) (hl : parts[i].length ≤ 1) (hf : fnd k a parts[i] = (n : Nat)) (hk : n < k.length) (h3 : k[n].kind ≠ 3) (h2 : k[n].kind = 2 ∨ i + 1 = parts.length) :
    StepJ k b parts ⟨i + 1, n⟩ := by
  obtain ⟨⟨ha, hka⟩, hw⟩ := h.at' hi
  have hw : wkS k b true true 6 (parts.drop i) a = wkS k b true true 6 parts b := hw
  have ha : a < k.length := ha
  have hka : k[a].kind = 2 := hka
  rw [drop_at hi, wkS_eq, wk1, if_neg (by rw [oAt_eq ha, hka]; simp), if_neg (Pth.nameOk_ne hn).2.2, hf, if_neg (by omega), Int.toNat_natCast, oAt_eq hk, if_neg (fun e => h3 e.1)] at hw
  refine ⟨hi, fun j w hj hjw => ?_, fun hlt => ?_, fun he => ?_⟩
  · rcases Nat.lt_or_ge j i with h4 | h4
    · exact h.nm j w h4 hjw
    · have hj : j < i + 1 := hj
      have : j = i := by omega
      subst this
      rw [List.getElem?_eq_getElem hi] at hjw
      cases hjw
      exact ⟨hn, hl⟩
  · have hlt : i + 1 < parts.length := hlt
    have hne : parts.drop (i + 1) ≠ [] := fun e => by
      have := congrArg List.length e
      simp at this
      omega
    rw [if_neg hne, ← wkS_eq] at hw
    refine ⟨⟨hk, ?_⟩, hw⟩
    rcases h2 with h2 | h2
    · exact h2
    · omega
  · have he : i + 1 = parts.length := he
    have hnil : parts.drop (i + 1) = [] := List.drop_eq_nil_of_le (by omega)
    rw [if_pos hnil] at hw
    exact ⟨_, parts[i], by rw [show parts.length - 1 = i by omega, List.getElem?_eq_getElem hi], hw.symm⟩
set_option maxRecDepth 100000 in
set_option maxHeartbeats 8000000 in
theorem lstep_body (b : List Int) (hb : BYb b) (base : Int) (parts : List Pth.Txt) (hpl : ∀ w, w ∈ parts → w.length ≤ 4194304) :
    body Tryd.prog c6 [.rv (.one (.dat (.sl 1 (byD b)))), vInt .i64 base, Pth.txV parts] [] (fun r m => r = vBool true) := by
  refine alive_ok ?_
  refine build_ok b hb fun l op ps hk => ?_
  have ok := hk.lk
  have tr := hk.tree.2
  have hl := ok.len
  unfold kernV
  rw [obs_eq]
  generalize l.map Obj.ob = k at ok hl tr
  refine bB_dec (fun h1 => ?_) (fun h1 => ?_)
  · exact rfl
  have h1 : ¬ ((parts.map Pth.tD).length : Int) < 1 := h1
  rw [lenT] at h1
  refine bB_dec (fun h2 => ?_) (fun h2 => ?_)
  · exact rfl
  have h2 : ¬ ((parts.map Pth.tD).length : Int) > 6 := h2
  rw [lenT] at h2
  refine is_okB k base 2 ?_
  cases hI : isSB k base 2 with
  | false => exact rfl
  | true =>
  obtain ⟨n, rfl, hn, hkn⟩ := is4_yesB (by decide) hI
  have hsub : IntKind.i64.wrap (((parts.map Pth.tD).length : Int) - 1) = ((parts.length - 1 : Nat) : Int) := by
    rw [lenT, show (parts.length : Int) - 1 = ((parts.length - 1 : Nat) : Int) by omega, wrapN (by omega)]
  refine loop_keep (fun s : StS => StepJ k n parts s) [0, 1, 2, 7] (fun s => [(8, vInt .i64 (s.a : Nat)), (34, Pth.txV parts), (35, vInt .i64 (parts.length : Nat)), (36, vInt .i64 (s.i : Nat))]) (fun _ => []) (fun s => parts.length - s.i) ⟨0, n⟩ ⟨Nat.zero_le _, fun j w h => absurd h (Nat.not_lt_zero j), fun _ => ⟨⟨hn, hkn⟩, rfl⟩, fun h => by have h : 0 = parts.length := h; omega⟩ ?_ (fun s hs => ?_)
  · refine View.of 0 [] [] rfl rfl rfl rfl rfl rfl ?_ (.nil _)
    repeat (first | exact .nil | refine .junk ?_ | refine .eq rfl ?_ | refine .put (.ren (by rw [lenT]; rfl)) ?_)
  obtain ⟨i, a⟩ := s
  have hi : i ≤ parts.length := hs.le
  refine bB_dec (fun h3 => ?_) (fun h3 => ?_)
  · have hlt : i < parts.length := by
      have h3 : (i : Int) < (parts.length : Int) := h3
      omega
    obtain ⟨⟨ha, hka⟩, _⟩ := hs.at' hlt
    have ha : a < k.length := ha
    have hka : k[a].kind = 2 := hka
    refine ok_some (Pth.tx_get hlt) ?_
    have hnx := fun m => hs.next (n := m) hlt
    have htr := tr a parts[i]
    have hwl := hpl parts[i] (List.getElem_mem hlt)
    generalize parts[i] = w at hnx htr hwl
    refine rfind_ok k ok a ha hka w ?_
    have hf := ok.fnd_lt a w
    refine Pth.rname_ok w hwl ?_
    cases hnm : Pth.nameOk w with
    | false => exact rfl
    | true =>
      refine bB_dec (fun h4 => ?_) (fun h4 => ?_)
      · exact rfl
      obtain ⟨m, hm, hmk⟩ := hf h4
      have hw1 := htr h4
      rw [hm]
      have hg := obj_getB hmk
      refine ok_some hg ?_
      refine bB_beq (fun h5 => ?_) (fun h5 => ?_)
      · exact rfl
      refine ok_some hg ?_
      refine bB_bne (fun h6 => ?_) (fun h6 => ?_)
      · refine bB_dec (fun h7 => ?_) (fun h7 => ?_)
        · exact rfl
        · have h7 : ¬ (i : Int) < IntKind.i64.wrap (((parts.map Pth.tD).length : Int) - 1) := h7
          rw [hsub] at h7
          refine ⟨⟨i + 1, m⟩, hnx m hnm hw1 hm hmk h5 (.inr (lastI hlt h7)), (show parts.length - (i + 1) < parts.length - i by omega), View.of 0 [] [] rfl rfl rfl rfl rfl rfl ?_ (.nil _)⟩
          repeat (first | exact .nil | refine .junk ?_ | refine .put (.ren (next_i64 (by omega)).symm) ?_ | refine .eq rfl ?_)
      · have h6 : k[m].kind = 2 := by simpa using h6
        refine ⟨⟨i + 1, m⟩, hnx m hnm hw1 hm hmk h5 (.inl h6), (show parts.length - (i + 1) < parts.length - i by omega), View.of 0 [] [] rfl rfl rfl rfl rfl rfl ?_ (.nil _)⟩
        repeat (first | exact .nil | refine .junk ?_ | refine .put (.ren (next_i64 (by omega)).symm) ?_ | refine .eq rfl ?_)
  · have h3 : ¬ (i : Int) < (parts.length : Int) := h3
    have hie : i = parts.length := by omega
    subst hie
    obtain ⟨d, w, hlast, hres⟩ := hs.fin rfl
    have hres : wkS k n true true 6 parts n = ⟨(a : Nat), d, w, 0⟩ := hres
    have hall : ∀ w, w ∈ parts → Pth.nameOk w = true ∧ w.length ≤ 1 := fun w hw => by
      obtain ⟨j, hj⟩ := List.getElem?_of_mem hw
      exact hs.nm j w (List.getElem?_eq_some_iff.1 hj).1 hj
    have hne : parts ≠ [] := fun e => by rw [e] at h1; simp at h1
    have hjl : (Pth.joinT [47] parts).length ≤ 1099511627776 := by
      cases parts with
      | nil => simp [Pth.joinT]
      | cons x r =>
        have h7 := Pth.tl_len (r := r) fun w hw => (hall w (by simp [hw])).2
        have h8 := (hall x (by simp)).2
        show (x ++ Pth.joinTl [47] r).length ≤ _
        rw [List.length_append]
        simp only [List.length_cons] at h2
        omega
    refine Pth.rjoin_ok parts false (by omega) hjl ?_
    refine path_ok k ok (n : Nat) (Pth.pathS parts false) true true ?_
    have hlook : lookS k (n : Nat) (Pth.pathS parts false) true true = ⟨(a : Nat), d, w, 0⟩ := by
      have hI0 : isSB k n 0 = true := by unfold isSB; rw [Int.toNat_natCast, List.getElem?_eq_getElem hn]; simp [hn, hkn]
      rw [lookS, if_pos hI0, Int.toNat_natCast, oAt_eq hn, if_neg (by rw [hkn]; simp), Pth.split_join hne (by omega) hall, if_neg (by simp), if_neg (by simp), if_neg (by simp), hres]
    rw [hlook]
    refine bB_yes (by simp) ?_
    have hgt : getZ (parts.map Pth.tD) (IntKind.i64.wrap (((parts.map Pth.tD).length : Int) - 1)) = some (Pth.tD w) := by
      rw [hsub, getZ_nat, List.getElem?_map, hlast]
      rfl
    refine ok_some hgt ?_
    show vBool _ = vBool true
    simp
set_option maxRecDepth 100000 in
theorem lstep_ok (b : List Int) (hb : BYb b) (base : Int) (parts : List Pth.Txt) (hpl : ∀ w, w ∈ parts → w.length ≤ 4194304) :
    ACall Tryd.prog 6 [.rv (.one (.dat (.sl 1 (byD b)))), vInt .i64 base, Pth.txV parts] [] (fun r m => r = vBool true) :=
  acall_body Tryd.func6 l6 rfl (Nat.le_of_ble_eq_true rfl) (lstep_body b hb base parts hpl)

def c7 : LF := ⟨71, [.tmp 6], (.seq (.reg [
    ⟨(some 6), .mov (.c (.rv (.one (.dat (.val (.bool false)))))), none⟩]) (.seq (.seq (.reg [
    ⟨(some 15), .call (.c (.rv (.one (.fn 13 [])))) [], none⟩,
    ⟨(some 16), .un .not (.t 15), none⟩]) (.cond (.t 16) (.seq (.reg [
    ⟨(some 6), .mov (.c (.rv (.one (.dat (.val (.bool false)))))), none⟩]) .ret) .skip)) (.seq (.seq (.reg [
    ⟨(some 17), .mov (.t 0), none⟩,
    ⟨(some 18), .call (.c (.rv (.one (.fn 16 [])))) [(.t 17)], none⟩,
    ⟨(some 19), .un .not (.t 18), none⟩,
    ⟨(some 20), .mov (.t 19), none⟩,
    ⟨(some 21), .mov (.t 0), (some (20, false))⟩,
    ⟨(some 22), .bin .eql (.t 21) (.c (.rv (.one (.dat (.val (.string ⟨#[97]⟩)))))), (some (20, false))⟩,
    ⟨(some 23), .pick (.t 20) (.c (.rv (.one (.dat (.val (.bool true)))))) (.t 22), none⟩]) (.cond (.t 23) (.seq (.reg [
    ⟨(some 6), .mov (.c (.rv (.one (.dat (.val (.bool true)))))), none⟩]) .ret) .skip)) (.seq (.reg [
    ⟨(some 25), .call (.c (.rv (.one (.fn 19 [])))) [], none⟩,
    ⟨(some 26), .mov (.t 0), none⟩,
    ⟨(some 27), .bin .add (.t 26) (.c (.rv (.one (.dat (.val (.string ⟨#[47]⟩)))))), none⟩,
    ⟨(some 28), .mov (.t 1), none⟩,
    ⟨(some 29), .bin .add (.t 27) (.t 28), none⟩,
    ⟨(some 30), .build [(.dat (.val (.int .i64 (0)))), .esl, .esl, (.dat (.val (.string ⟨#[]⟩))), (.dat (.val (.int .i64 (0)))), .esl, (.dat (.val (.int .i64 (0)))), (.dat (.val (.int .i64 (0)))), (.dat (.val (.int .i64 (0))))] [(0, 1, (.c (.rv (.one (.dat (.val (.int .i64 (3)))))))), (3, 1, (.t 29))], none⟩,
    ⟨(some 31), .call (.c (.rv (.one (.fn 18 [])))) [(.t 25), (.t 30)], none⟩,
    ⟨(some 24), .mov (.t 31), none⟩,
    ⟨(some 32), .ext (.t 24) 0, none⟩,
    ⟨(some 33), .ext (.t 24) 1, none⟩,
    ⟨(some 34), .ext (.t 24) 2, none⟩,
    ⟨(some 7), .mov (.t 32), none⟩,
    ⟨(some 8), .mov (.t 33), none⟩,
    ⟨(some 9), .mov (.t 34), none⟩]) (.seq (.reg [
    ⟨(some 36), .mov (.t 7), none⟩,
    ⟨(some 37), .mov (.t 0), none⟩,
    ⟨(some 38), .mov (.t 8), none⟩,
    ⟨(some 39), .call (.c (.rv (.one (.fn 20 [])))) [(.t 36), (.c (.rv (.one (.dat (.val (.int .i64 (0))))))), (.t 37), (.t 38)], none⟩,
    ⟨(some 35), .mov (.t 39), none⟩,
    ⟨(some 40), .ext (.t 35) 0, none⟩,
    ⟨(some 41), .ext (.t 35) 1, none⟩,
    ⟨(some 10), .mov (.t 40), none⟩,
    ⟨(some 11), .mov (.t 41), none⟩]) (.seq (.seq (.reg [
    ⟨(some 42), .mov (.t 11), none⟩,
    ⟨(some 43), .bin .neq (.t 42) (.c (.rv (.one (.dat (.val (.int .i64 (0))))))), none⟩]) (.cond (.t 43) (.seq (.reg [
    ⟨(some 6), .mov (.c (.rv (.one (.dat (.val (.bool true)))))), none⟩]) .ret) .skip)) (.seq (.reg [
    ⟨(some 45), .mov (.t 10), none⟩,
    ⟨(some 46), .mov (.t 0), none⟩,
    ⟨(some 47), .mov (.t 2), none⟩,
    ⟨(some 48), .call (.c (.rv (.one (.fn 9 [])))) [(.t 45), (.c (.rv (.one (.dat (.val (.int .i64 (0))))))), (.t 46), (.t 47), (.c (.rv (.one (.dat (.val (.bool true))))))], none⟩,
    ⟨(some 44), .mov (.t 48), none⟩,
    ⟨(some 49), .ext (.t 44) 0, none⟩,
    ⟨(some 50), .ext (.t 44) 1, none⟩,
    ⟨(some 11), .mov (.t 50), none⟩]) (.seq (.seq (.reg [
    ⟨(some 52), .mov (.t 0), none⟩,
    ⟨(some 53), .bin .add (.t 52) (.c (.rv (.one (.dat (.val (.string ⟨#[47]⟩)))))), none⟩,
    ⟨(some 54), .mov (.t 1), none⟩,
    ⟨(some 55), .bin .add (.t 53) (.t 54), none⟩,
    ⟨(some 56), .call (.c (.rv (.one (.fn 21 [])))) [(.t 55)], none⟩,
    ⟨(some 51), .mov (.t 56), none⟩,
    ⟨(some 57), .ext (.t 51) 0, none⟩,
    ⟨(some 58), .ext (.t 51) 1, none⟩,
    ⟨(some 59), .ext (.t 51) 2, none⟩,
    ⟨(some 12), .mov (.t 57), none⟩,
    ⟨(some 13), .mov (.t 58), none⟩,
    ⟨(some 14), .mov (.t 59), none⟩]) (.seq (.reg [
    ⟨(some 60), .mov (.t 14), none⟩,
    ⟨(some 61), .bin .neq (.t 60) (.c (.rv (.one (.dat (.val (.int .i64 (0))))))), none⟩]) (.cond (.t 61) (.seq (.reg [
    ⟨(some 62), .mov (.t 11), none⟩,
    ⟨(some 63), .mov (.t 14), none⟩,
    ⟨(some 64), .bin .eql (.t 62) (.t 63), none⟩,
    ⟨(some 6), .mov (.t 64), none⟩]) .ret) .skip))) (.seq (.reg [
    ⟨(some 65), .mov (.t 11), none⟩,
    ⟨(some 66), .bin .eql (.t 65) (.c (.rv (.one (.dat (.val (.int .i64 (13))))))), none⟩,
    ⟨(some 67), .mov (.t 66), none⟩,
    ⟨(some 68), .mov (.t 11), (some (67, false))⟩,
    ⟨(some 69), .bin .eql (.t 68) (.c (.rv (.one (.dat (.val (.int .i64 (4))))))), (some (67, false))⟩,
    ⟨(some 70), .pick (.t 67) (.c (.rv (.one (.dat (.val (.bool true)))))) (.t 69), none⟩,
    ⟨(some 6), .mov (.t 70), none⟩]) .ret)))))))))⟩
/-! LookLoop -/
namespace Pth
theorem split_name {w : Txt} (h : nameOk w = true) : splitS w = ([w], false, 0) := by
  have h1 := nameOk_ne h
  have h2 := nameOk_sl h
  have hl : w.length ≤ 12 := by
    simp only [nameOk, Bool.and_eq_true, decide_eq_true_eq] at h
    exact h.1.1.1.2
  obtain ⟨c, y, rfl⟩ : ∃ c y, w = c :: y := by
    cases w with
    | nil => exact absurd rfl h1.1
    | cons c y => exact ⟨c, y, rfl⟩
  have h47 : c ≠ 47 := fun e => h2 (by simp [e])
  unfold splitS partsS
  rw [if_neg h1.1, if_neg (by omega), cutL_none' h2, if_pos (by simp [goodT, h])]
  simp [keepT, h1.2.1, h47]
theorem split_pre {w t : Txt} (h : nameOk w = true) : (splitS (w ++ 47 :: t)).2.2 = 0 → ∃ r, splitS (w ++ 47 :: t) = (w :: r, false, 0) := by
  have h1 := nameOk_ne h
  have h2 := nameOk_sl h
  obtain ⟨c, y, rfl⟩ : ∃ c y, w = c :: y := by
    cases w with
    | nil => exact absurd rfl h1.1
    | cons c y => exact ⟨c, y, rfl⟩
  have h47 : c ≠ 47 := fun e => h2 (by simp [e])
  unfold splitS partsS
  rw [if_neg (by simp), cutL_app t h2]
  split
  · intro h; cases h
  · split
    · intro _
      refine ⟨(cutL 47 t).filter keepT, ?_⟩
      rw [List.filter_cons, if_pos (by simp [keepT, h1.2.1])]
      simp [h47]
    · intro h; cases h
end Pth
theorem loop_wk {l : List Ob} {fence : Bool} {w : Pth.Txt} {k : Nat} {r : List Pth.Txt} (h2 : (oAt l 0).kind = 2) (hw : w ≠ [46, 46]) (hf : fnd l 0 w = (k : Nat)) (h3 : (oAt l k).kind = 3) (hs : Pth.splitS (tgt l k) = (w :: r, false, 0)) :
    ∀ (n : Nat) (rest : List Pth.Txt), wkS l 0 fence true n (w :: rest) 0 = R4.no 13
  | 0, rest => wk1_link h2 hw hf h3 (.inl rfl)
  | n + 1, rest => by
    show wk1 l 0 fence true (lnk l fence (wkS l 0 fence true n)) (w :: rest) 0 = _
    rw [wk1_link h2 hw hf h3 (.inl rfl), lnk_ok hs, List.cons_append]
    exact loop_wk h2 hw hf h3 hs n _
theorem loop_err {l : List Ob} {fence : Bool} {w : Pth.Txt} {k : Nat} (h2 : (oAt l 0).kind = 2) (hw : w ≠ [46, 46]) (hf : fnd l 0 w = (k : Nat)) (h3 : (oAt l k).kind = 3) (hs : (Pth.splitS (tgt l k)).2.2 ≠ 0) (n : Nat) (rest : List Pth.Txt) :
    wkS l 0 fence true (n + 1) (w :: rest) 0 = R4.no (Pth.splitS (tgt l k)).2.2 := by
  show wk1 l 0 fence true (lnk l fence (wkS l 0 fence true n)) (w :: rest) 0 = _
  rw [wk1_link h2 hw hf h3 (.inl rfl), lnk, if_pos hs]
def xT (t : Pth.Txt) : OT := ⟨3, [], t, 0, 0, 0, 0⟩
def loopT (name t : Pth.Txt) : List OT := [rT (insT (name, 5) [([97], 1)]), dT 1 0 [([98], 2), ([108], 4)], dT 1 1 [([102], 3)], ⟨1, [], [], 0, 0, 1, 0⟩, ⟨3, [], [46, 46, 47, 120], 0, 0, 1, 0⟩, ⟨3, [], t, 0, 0, 1, 0⟩]
theorem loopT_mk (t : Pth.Txt) : okL (treeT 4 ++ [xT t]) = true := by
  show okL [rT [([97], 1)], dT 1 0 [([98], 2), ([108], 4)], dT 1 1 [([102], 3)], ⟨1, [], [], 0, 0, 1, 0⟩, ⟨3, [], [46, 46, 47, 120], 0, 0, 1, 0⟩, ⟨3, [], t, 0, 0, 0, 0⟩] = true
  rfl
theorem loopT_ins {name : Pth.Txt} (h : name ≠ [97]) : srtT (insT (name, 5) [([97], 1)]) = true ∧ (insT (name, 5) [([97], 1)] = [(name, 5), ([97], 1)] ∨ insT (name, 5) [([97], 1)] = [([97], 1), (name, 5)]) := by
  unfold insT
  by_cases hg : gtT [97] name = true
  · rw [if_pos hg]
    refine ⟨?_, .inl rfl⟩
    simp only [gtT, Bool.not_eq_true', Bool.or_eq_false_iff, beq_eq_false_iff_ne] at hg
    rcases bl_tri name [97] with h1 | h1 | h1
    · simp [srtT, h1]
    · exact absurd h1 h
    · rw [hg.1] at h1; cases h1
  · rw [if_neg hg]
    refine ⟨?_, .inr rfl⟩
    simp only [gtT, Bool.not_eq_true', Bool.not_eq_false, Bool.or_eq_true, beq_iff_eq] at hg
    rcases hg with h1 | h1
    · simp [srtT, insT, h1]
    · exact absurd h1.symm h
theorem loopT_ok {name t : Pth.Txt} (h : name ≠ [97]) : okL (loopT name t) = true := by
  obtain ⟨h1, h2 | h2⟩ := loopT_ins h
  · rw [h2] at h1
    unfold loopT
    rw [h2]
    simp only [okL, okOT, rT, dT, h1, List.all_cons, List.all_nil]
    rfl
  · rw [h2] at h1
    unfold loopT
    rw [h2]
    simp only [okL, okOT, rT, dT, h1, List.all_cons, List.all_nil]
    rfl
theorem loopT_enter {name t : Pth.Txt} (h : name ≠ [97]) : rEnterS true ((treeT 4 ++ [xT t]).map OT.ob) (0 : Nat) (Pth.bysL name) (5 : Nat) = ((loopT name t).map OT.ob, 0) := by
  rw [enterT_eq (x := rT [([97], 1)]) (q := xT t) rfl rfl rfl (by decide : (3 : Int) ≠ 0) (by decide) ?_ (by decide)]
  · rfl
  · have : ¬ [97] = name := fun e => h e.symm
    simp [fndT, rT, this]
theorem loopT_fnd {name t : Pth.Txt} (h : name ≠ [97]) : fnd ((loopT name t).map OT.ob) 0 name = (5 : Nat) := by
  have : ¬ [97] = name := fun e => h e.symm
  rw [fndL]
  show fndT (insT (name, 5) [([97], 1)]) name = 5
  obtain ⟨h1, h2 | h2⟩ := loopT_ins h
  · rw [h2]; simp [fndT]
  · rw [h2]; simp [fndT, this]
theorem loop_look {name t : Pth.Txt} (fence : Bool) (hn : Pth.nameOk name = true) (h : name ≠ [97]) (t0 : Pth.Txt) (ht : t = name ++ 47 :: t0) :
    (lookS ((loopT name t).map OT.ob) 0 name fence true).err = if (Pth.splitS t).2.2 ≠ 0 then (Pth.splitS t).2.2 else 13 := by
  have h1 : isSB ((loopT name t).map OT.ob) 0 0 = true := by
    have := isT (l := loopT name t) (n := 0) (x := rT (insT (name, 5) [([97], 1)])) rfl (by decide : (2 : Int) ≠ 0)
    exact this
  have k0 : (oAt ((loopT name t).map OT.ob) 0).kind = 2 := by rw [kindL]; rfl
  have k5 : (oAt ((loopT name t).map OT.ob) 5).kind = 3 := by rw [kindL]; rfl
  have t5 : tgt ((loopT name t).map OT.ob) 5 = t := by rw [tgtL]; rfl
  have hf := loopT_fnd (t := t) h
  have hw := (Pth.nameOk_ne hn).2.2
  rw [lookS, if_pos h1]
  show (if (oAt ((loopT name t).map OT.ob) 0).kind ≠ 2 then R4.no 11 else _).err = _
  rw [if_neg (by rw [k0]; simp), Pth.split_name hn, if_neg (by simp), if_neg (by simp), if_neg (by simp)]
  show (wkS ((loopT name t).map OT.ob) 0 fence true (5 + 1) [name] 0).err = _
  by_cases he : (Pth.splitS t).2.2 ≠ 0
  · rw [if_pos he, loop_err k0 hw hf k5 (by rw [t5]; exact he), t5]
    rfl
  · rw [if_neg he]
    have he : (Pth.splitS t).2.2 = 0 := by simpa using he
    rw [ht] at he
    obtain ⟨r, hr⟩ := Pth.split_pre hn he
    rw [← ht] at hr
    rw [loop_wk k0 hw hf k5 (r := r) (by rw [t5]; exact hr)]
    rfl
theorem l7 : lowF Tryd.prog Tryd.f7 = some c7 := by kernel_rfl
theorem xArgs (t : Pth.Txt) (x : CV) : ArgsL [x, .rv (.agg [.dat (.val (.int .i64 3)), .esl, .esl, .dat (.val (.string (Pth.bysL t))), .dat (.val (.int .i64 0)), .esl, .dat (.val (.int .i64 0)), .dat (.val (.int .i64 0)), .dat (.val (.int .i64 0))])] [x, (xT t).ob.cv] :=
  .same _ (.agg (.cons (.same _) (.cons (.esl 1) (.cons (.esl 2) (.cons (.same _) (.cons (.same _) (.cons .no (.cons (.same _) (.cons (.same _) (.cons (.same _) .nil))))))))) .nil)
set_option maxRecDepth 100000 in
set_option maxHeartbeats 8000000 in
theorem lloop_body (name t0 : Pth.Txt) (fence : Bool) (hnl : name.length ≤ 4194304) (htl : t0.length ≤ 4194304) : body Tryd.prog c7 [Pth.vT name, Pth.vT t0, vBool fence] [] (fun r m => r = vBool true) := by
  refine alive_ok ?_
  refine Pth.rname_ok name hnl ?_
  cases hn : Pth.nameOk name with
  | false => exact rfl
  | true =>
  refine Pth.bB_str (b := [97]) (fun h => ?_) (fun h => ?_)
  · exact rfl
  have hadd : ∀ u : Pth.Txt, name ++ [47] ++ u = name ++ 47 :: u := fun u => by simp
  refine tree_ok ?_
  refine ok_some (Pth.binV_add (a := name) (b := [47]) (by simp; omega)) ?_
  refine ok_some (Pth.binV_add (a := name ++ [47]) (b := t0) (by simp; omega)) ?_
  rw [hadd]
  have hlk := loop_look (name := name) fence hn h t0 rfl
  generalize hT : name ++ 47 :: t0 = t at hlk
  refine acall_le (xArgs t _) ?_
  refine rmake_okB ((treeT 4).map OT.ob) (by decide) (xT t).ob ?_
  have hmk : rMakeSB ((treeT 4).map OT.ob) (xT t).ob = ((treeT 4 ++ [xT t]).map OT.ob, ((5 : Nat) : Int), 0) :=
    mkT_eq (fun y hy => by
      have := okL_at (treeT_ok 4 (by omega)) y hy
      simp only [okOT, Bool.and_eq_true, decide_eq_true_eq] at this
      exact this.1.1.1.2) (by decide) (xT t)
  rw [hmk]
  refine enter_okX _ (okL_good (loopT_mk t)).1 (0 : Nat) (Pth.bysL name) true (fun {m K} h => nm_ok name hn hnl h) ((5 : Nat) : Int) ?_
  rw [loopT_enter h]
  refine path_ok ((loopT name t).map OT.ob) (okL_good (loopT_ok h)).2 0 name fence true ?_
  generalize lookS ((loopT name t).map OT.ob) 0 name fence true = r at hlk
  refine ok_some (Pth.binV_add (a := name) (b := [47]) (by simp; omega)) ?_
  refine ok_some (Pth.binV_add (a := name ++ [47]) (b := t0) (by simp; omega)) ?_
  rw [hadd, hT]
  refine Pth.rsplit_ok t ?_
  generalize Pth.splitS t = p at hlk
  obtain ⟨ps, rt, er⟩ := p
  refine bB_bne (fun h1 => ?_) (fun h1 => ?_)
  · rw [if_pos h1] at hlk
    rw [hlk]
    show vBool _ = vBool true
    simp
  · have h1 : er = 0 := by simpa using h1
    rw [if_neg (by simp [h1])] at hlk
    rw [hlk]
    exact rfl
set_option maxRecDepth 100000 in
theorem lloop_ok (name t0 : Pth.Txt) (fence : Bool) (hnl : name.length ≤ 4194304) (htl : t0.length ≤ 4194304) : ACall Tryd.prog 7 [Pth.vT name, Pth.vT t0, vBool fence] [] (fun r m => r = vBool true) :=
  acall_body Tryd.func7 l7 rfl (Nat.le_of_ble_eq_true rfl) (lloop_body name t0 fence hnl htl)


end Go.Proofs.YtppecaflkpklfaaDoor
