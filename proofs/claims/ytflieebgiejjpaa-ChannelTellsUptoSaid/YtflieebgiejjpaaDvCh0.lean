import Derived.Test.YtflieebgiejjpaaAmZ2
import Derived.Test.YtflieebgiejjpaaAmR
import Derived.Test.YtflieebgiejjpaaAmU
import Derived.Test.YtflieebgiejjpaaRows
import Derived.Test.YtflieebgiejjpaaAmY
set_option linter.unusedVariables false
set_option linter.unusedSimpArgs false
namespace Go.Proofs.Ytflieebgiejjpaa
open Go.AM Go.ChangeShapes Go.WideShapes Go.ChangeAt Go.RowKit
def c94 : LF := ⟨8, [.tmp 2], (.seq (.reg [
    ⟨(some 2), .mov (.c (.rv (.one .esl))), none⟩]) (.seq (.seq (.reg [
    ⟨(some 3), .mov (.t 0), none⟩,
    ⟨(some 4), .snil false (.t 3), none⟩]) (.cond (.t 4) (.seq (.reg [
    ⟨(some 2), .mov (.c (.rv (.one .esl))), none⟩]) .ret) .skip)) (.seq (.reg [
    ⟨(some 5), .bsl 1 [(.dat (.val (.int .u8 (0))))] 0 [], none⟩,
    ⟨(some 6), .mov (.t 0), none⟩,
    ⟨(some 7), .app 1 1 (.t 5) (.t 6), none⟩,
    ⟨(some 2), .mov (.t 7), none⟩]) .ret)))⟩
def c113 : LF := ⟨8, [.tmp 2], (.seq (.reg [
    ⟨(some 2), .mov (.c (.rv (.one .esl))), none⟩]) (.seq (.seq (.reg [
    ⟨(some 3), .mov (.t 0), none⟩,
    ⟨(some 4), .snil false (.t 3), none⟩]) (.cond (.t 4) (.seq (.reg [
    ⟨(some 2), .mov (.c (.rv (.one .esl))), none⟩]) .ret) .skip)) (.seq (.reg [
    ⟨(some 5), .bsl 2 [(.dat (.val (.string ⟨#[]⟩))), (.dat (.val (.int .i64 (0))))] 0 [], none⟩,
    ⟨(some 6), .mov (.t 0), none⟩,
    ⟨(some 7), .app 2 24 (.t 5) (.t 6), none⟩,
    ⟨(some 2), .mov (.t 7), none⟩]) .ret)))⟩
/-! Objects -/
theorem wrapI {n : Int} (h1 : -9223372036854775808 ≤ n) (h2 : n ≤ 9223372036854775807) : IntKind.i64.wrap n = n := IntWalk.i64_in n (by omega)
structure Msg where
  data : List (List Dt)
  has : Bool
  opn : Int
  rts : Int
def Msg.enc (m : Msg) : List Dt := [.sl 1 m.data, .val (.bool m.has), .val (.int .i64 m.opn), .val (.int .i64 m.rts)]
structure Obj where
  kind : Int
  data : List (List Dt)
  entries : List (List Dt)
  target : ByteArray
  peer : Int
  queue : List Msg
  proc : Int
  links : Int
  up : Int
def Obj.enc (o : Obj) : List Dt := [.val (.int .i64 o.kind), .sl 1 o.data, .sl 2 o.entries, .val (.string o.target), .val (.int .i64 o.peer), .sl 4 (o.queue.map Msg.enc), .val (.int .i64 o.proc), .val (.int .i64 o.links), .val (.int .i64 o.up)]
def Msg.cv (m : Msg) : CV := .rv (.agg (m.enc.map .dat))
def Obj.cv (o : Obj) : CV := .rv (.agg (o.enc.map .dat))
def objsD (l : List Obj) : Dt := .sl 9 (l.map Obj.enc)
def objsV (l : List Obj) : CV := .rv (.one (.dat (objsD l)))
/-- sizes that fit -/
def Obj.fit (o : Obj) : Prop := o.data.length ≤ 4194304 ∧ o.entries.length ≤ 4194304 ∧ o.queue.length ≤ 4194304 ∧ ∀ q, q ∈ o.queue → q.data.length ≤ 4194304
def fitL (l : List Obj) : Prop := l.length ≤ 4194304 ∧ ∀ o, o ∈ l → o.fit
/-! clones that are data -/
theorem l94 : lowF Try.prog Try.f94 = some c94 := by kernel_rfl
theorem l113 : lowF Try.prog Try.f113 = some c113 := by kernel_rfl
def slV (esz : Nat) (d : List (List Dt)) : CV := .rv (.one (.dat (.sl esz d)))
set_option maxRecDepth 100000 in
theorem bclone_body (d : List (List Dt)) (hb : d.length ≤ 4194304) : body Try.prog c94 [slV 1 d] [] (fun r m => FrzV m r (slV 1 d)) := by
  have big : ((([] : List (List CC)).length + (d.map fun ds => ds.map CC.dat).length) * 1) ≤ 140737488355328 := by simp; omega
  refine bB_split (fun h => ?_) (fun h => ?_)
  · have hd : d = [] := List.eq_nil_of_length_eq_zero (by simpa using Nat.eq_of_beq_eq_true h)
    subst hd
    exact ⟨.rv (.one (.esl 1)), big, .rv (.one (FrzC.rowD rfl 0 none))⟩
  · exact ⟨big, .rv (.one (FrzC.rowD rfl 0 none))⟩
set_option maxRecDepth 100000 in
theorem bclone_ok (d : List (List Dt)) (hb : d.length ≤ 4194304) {m : Mem} {K : CV → Mem → Prop} (h : K (slV 1 d) m) : ACall Try.prog 94 [slV 1 d] m K :=
  acall_frame (acall_body Try.func94 l94 rfl (Nat.le_of_ble_eq_true rfl) (bclone_body d hb)) (by simp [slV, CV.isD, CC.isD]) fun r m1 hf => ⟨_, hf, h⟩
set_option maxRecDepth 100000 in
theorem eclone_body (d : List (List Dt)) (hb : d.length ≤ 4194304) : body Try.prog c113 [slV 2 d] [] (fun r m => FrzV m r (slV 2 d)) := by
  have big : ((([] : List (List CC)).length + (d.map fun ds => ds.map CC.dat).length) * 24) ≤ 140737488355328 := by simp; omega
  refine bB_split (fun h => ?_) (fun h => ?_)
  · have hd : d = [] := List.eq_nil_of_length_eq_zero (by simpa using Nat.eq_of_beq_eq_true h)
    subst hd
    exact ⟨.rv (.one (.esl 2)), big, .rv (.one (FrzC.rowD rfl 0 none))⟩
  · exact ⟨big, .rv (.one (FrzC.rowD rfl 0 none))⟩
set_option maxRecDepth 100000 in
theorem eclone_ok (d : List (List Dt)) (hb : d.length ≤ 4194304) {m : Mem} {K : CV → Mem → Prop} (h : K (slV 2 d) m) : ACall Try.prog 113 [slV 2 d] m K :=
  acall_frame (acall_body Try.func113 l113 rfl (Nat.le_of_ble_eq_true rfl) (eclone_body d hb)) (by simp [slV, CV.isD, CC.isD]) fun r m1 hf => ⟨_, hf, h⟩
/-! Own: a row of its own, its elements' slices data, but for the queue of one of them -/
def rowO (p Q k : Nat) (o : Obj) : List CC := [.dat (.val (.int .i64 o.kind)), .dat (.sl 1 o.data), .dat (.sl 2 o.entries), .dat (.val (.string o.target)), .dat (.val (.int .i64 o.peer)),
  (if k = p then .row Q 4 0 none else .dat (.sl 4 (o.queue.map Msg.enc))), .dat (.val (.int .i64 o.proc)), .dat (.val (.int .i64 o.links)), .dat (.val (.int .i64 o.up))]
def rowsO (p Q : Nat) : Nat → List Obj → List (List CC)
  | _, [] => []
  | k, o :: r => rowO p Q k o :: rowsO p Q (k + 1) r
theorem rowsO_append (p Q : Nat) : ∀ (a : List Obj) (k : Nat) (b : List Obj), rowsO p Q k (a ++ b) = rowsO p Q k a ++ rowsO p Q (k + a.length) b
  | [], k, b => rfl
  | o :: r, k, b => by simp [rowsO, rowsO_append p Q r (k + 1) b, Nat.add_assoc, Nat.add_comm 1]
theorem rowsO_len (p Q : Nat) : ∀ (l : List Obj) (k : Nat), (rowsO p Q k l).length = l.length
  | [], _ => rfl
  | o :: r, k => by simp [rowsO, rowsO_len p Q r (k + 1)]
theorem rowsO_none (p Q : Nat) : ∀ (l : List Obj) (k : Nat), (p < k ∨ k + l.length ≤ p) → rowsO p Q k l = dRows (l.map Obj.enc)
  | [], _, _ => rfl
  | o :: r, k, h => by
    simp only [List.length_cons] at h
    have hk : ¬ k = p := by omega
    simp only [rowsO, rowO, if_neg hk, rowsO_none p Q r (k + 1) (by omega)]
    rfl
theorem rowsO_get (p Q : Nat) : ∀ (l : List Obj) (k i : Nat), (rowsO p Q k l)[i]? = (l[i]?).map (rowO p Q (k + i))
  | [], k, i => by simp [rowsO]
  | o :: r, k, 0 => by simp [rowsO]
  | o :: r, k, i + 1 => by
    simp only [rowsO, List.getElem?_cons_succ, rowsO_get p Q r (k + 1) i]
    rw [show k + 1 + i = k + (i + 1) by omega]
theorem rowO_ren {σ : Nat → Nat} {p Q k : Nat} (o : Obj) : (rowO p Q k o).map (CC.ren σ) = rowO p (σ Q) k o := by
  by_cases h : k = p <;> simp [rowO, h, CC.ren]
theorem rowsO_ren {σ : Nat → Nat} (p Q : Nat) : ∀ (l : List Obj) (k : Nat), (rowsO p Q k l).map (fun cs => cs.map (CC.ren σ)) = rowsO p (σ Q) k l
  | [], _ => rfl
  | o :: r, k => by
    simp only [rowsO, List.map_cons, rowsO_ren p Q r (k + 1)]
    rw [rowO_ren]
end Go.Proofs.Ytflieebgiejjpaa
