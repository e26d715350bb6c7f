import Derived.Test.YtecmaolfellofaaAmZ2
import Derived.Test.YtecmaolfellofaaAmR
import Derived.Test.YtecmaolfellofaaAmU
import Derived.Test.YtecmaolfellofaaRows
import Derived.Test.YtecmaolfellofaaAmY
set_option linter.unusedVariables false
set_option linter.unusedSimpArgs false
namespace Go.Proofs.Ytecmaolfellofaa
open Go.AM Go.ChangeShapes Go.WideShapes Go.ChangeAt Go.RowKit
def c29 : LF := ⟨8, [.tmp 2], (.seq (.reg [
    ⟨(some 2), .mov (.c (.rv (.one .esl))), none⟩]) (.seq (.seq (.reg [
    ⟨(some 3), .mov (.t 0), none⟩,
    ⟨(some 4), .snil false (.t 3), none⟩]) (.cond (.t 4) (.seq (.reg [
    ⟨(some 2), .mov (.c (.rv (.one .esl))), none⟩]) .ret) .skip)) (.seq (.reg [
    ⟨(some 5), .bsl 1 [(.dat (.val (.int .u8 (0))))] 0 [], none⟩,
    ⟨(some 6), .mov (.t 0), none⟩,
    ⟨(some 7), .app 1 1 (.t 5) (.t 6), none⟩,
    ⟨(some 2), .mov (.t 7), none⟩]) .ret)))⟩
def c30 : LF := ⟨8, [.tmp 2], (.seq (.reg [
    ⟨(some 2), .mov (.c (.rv (.one .esl))), none⟩]) (.seq (.seq (.reg [
    ⟨(some 3), .mov (.t 0), none⟩,
    ⟨(some 4), .snil false (.t 3), none⟩]) (.cond (.t 4) (.seq (.reg [
    ⟨(some 2), .mov (.c (.rv (.one .esl))), none⟩]) .ret) .skip)) (.seq (.reg [
    ⟨(some 5), .bsl 2 [(.dat (.val (.string ⟨#[]⟩))), (.dat (.val (.int .i64 (0))))] 0 [], none⟩,
    ⟨(some 6), .mov (.t 0), none⟩,
    ⟨(some 7), .app 2 24 (.t 5) (.t 6), none⟩,
    ⟨(some 2), .mov (.t 7), none⟩]) .ret)))⟩
/-! Objects -/
theorem wrapI {n : Int} (h1 : -9223372036854775808 ≤ n) (h2 : n ≤ 9223372036854775807) : IntKind.i64.wrap n = n := IntWalk.i64_in n (by omega)
structure Msg where
  data : List (List Dt)
  has : Bool
  opn : Int
  rts : Int
def Msg.enc (m : Msg) : List Dt := [.sl 1 m.data, .val (.bool m.has), .val (.int .i64 m.opn), .val (.int .i64 m.rts)]
structure Obj where
  kind : Int
  data : List (List Dt)
  entries : List (List Dt)
  target : ByteArray
  peer : Int
  queue : List Msg
  proc : Int
  links : Int
  up : Int
def Obj.enc (o : Obj) : List Dt := [.val (.int .i64 o.kind), .sl 1 o.data, .sl 2 o.entries, .val (.string o.target), .val (.int .i64 o.peer), .sl 4 (o.queue.map Msg.enc), .val (.int .i64 o.proc), .val (.int .i64 o.links), .val (.int .i64 o.up)]
def Msg.cv (m : Msg) : CV := .rv (.agg (m.enc.map .dat))
def Obj.cv (o : Obj) : CV := .rv (.agg (o.enc.map .dat))
def objsD (l : List Obj) : Dt := .sl 9 (l.map Obj.enc)
def objsV (l : List Obj) : CV := .rv (.one (.dat (objsD l)))
/-- sizes that fit -/
def Obj.fit (o : Obj) : Prop := o.data.length ≤ 4194304 ∧ o.entries.length ≤ 4194304 ∧ o.queue.length ≤ 4194304 ∧ ∀ q, q ∈ o.queue → q.data.length ≤ 4194304
def fitL (l : List Obj) : Prop := l.length ≤ 4194304 ∧ ∀ o, o ∈ l → o.fit
/-! clones that are data -/
theorem l29 : lowF Try.prog Try.f29 = some c29 := by kernel_rfl
theorem l30 : lowF Try.prog Try.f30 = some c30 := by kernel_rfl
def slV (esz : Nat) (d : List (List Dt)) : CV := .rv (.one (.dat (.sl esz d)))
set_option maxRecDepth 100000 in
theorem bclone_body (d : List (List Dt)) (hb : d.length ≤ 4194304) : body Try.prog c29 [slV 1 d] [] (fun r m => FrzV m r (slV 1 d)) := by
  have big : ((([] : List (List CC)).length + (d.map fun ds => ds.map CC.dat).length) * 1) ≤ 140737488355328 := by simp; omega
  refine bB_split (fun h => ?_) (fun h => ?_)
  · have hd : d = [] := List.eq_nil_of_length_eq_zero (by simpa using Nat.eq_of_beq_eq_true h)
    subst hd
    exact ⟨.rv (.one (.esl 1)), big, .rv (.one (FrzC.rowD rfl 0 none))⟩
  · exact ⟨big, .rv (.one (FrzC.rowD rfl 0 none))⟩
set_option maxRecDepth 100000 in
theorem bclone_ok (d : List (List Dt)) (hb : d.length ≤ 4194304) {m : Mem} {K : CV → Mem → Prop} (h : K (slV 1 d) m) : ACall Try.prog 29 [slV 1 d] m K :=
  acall_frame (acall_body Try.func29 l29 rfl (Nat.le_of_ble_eq_true rfl) (bclone_body d hb)) (by simp [slV, CV.isD, CC.isD]) fun r m1 hf => ⟨_, hf, h⟩
set_option maxRecDepth 100000 in
theorem eclone_body (d : List (List Dt)) (hb : d.length ≤ 4194304) : body Try.prog c30 [slV 2 d] [] (fun r m => FrzV m r (slV 2 d)) := by
  have big : ((([] : List (List CC)).length + (d.map fun ds => ds.map CC.dat).length) * 24) ≤ 140737488355328 := by simp; omega
  refine bB_split (fun h => ?_) (fun h => ?_)
  · have hd : d = [] := List.eq_nil_of_length_eq_zero (by simpa using Nat.eq_of_beq_eq_true h)
    subst hd
    exact ⟨.rv (.one (.esl 2)), big, .rv (.one (FrzC.rowD rfl 0 none))⟩
  · exact ⟨big, .rv (.one (FrzC.rowD rfl 0 none))⟩
set_option maxRecDepth 100000 in
theorem eclone_ok (d : List (List Dt)) (hb : d.length ≤ 4194304) {m : Mem} {K : CV → Mem → Prop} (h : K (slV 2 d) m) : ACall Try.prog 30 [slV 2 d] m K :=
  acall_frame (acall_body Try.func30 l30 rfl (Nat.le_of_ble_eq_true rfl) (eclone_body d hb)) (by simp [slV, CV.isD, CC.isD]) fun r m1 hf => ⟨_, hf, h⟩
/-! Own: a row of its own, its elements' slices data, but for the queue of one of them -/
def rowO (p Q k : Nat) (o : Obj) : List CC := [.dat (.val (.int .i64 o.kind)), .dat (.sl 1 o.data), .dat (.sl 2 o.entries), .dat (.val (.string o.target)), .dat (.val (.int .i64 o.peer)),
  (if k = p then .row Q 4 0 none else .dat (.sl 4 (o.queue.map Msg.enc))), .dat (.val (.int .i64 o.proc)), .dat (.val (.int .i64 o.links)), .dat (.val (.int .i64 o.up))]
def rowsO (p Q : Nat) : Nat → List Obj → List (List CC)
  | _, [] => []
  | k, o :: r => rowO p Q k o :: rowsO p Q (k + 1) r
theorem rowsO_append (p Q : Nat) : ∀ (a : List Obj) (k : Nat) (b : List Obj), rowsO p Q k (a ++ b) = rowsO p Q k a ++ rowsO p Q (k + a.length) b
  | [], k, b => rfl
  | o :: r, k, b => by simp [rowsO, rowsO_append p Q r (k + 1) b, Nat.add_assoc, Nat.add_comm 1]
theorem rowsO_len (p Q : Nat) : ∀ (l : List Obj) (k : Nat), (rowsO p Q k l).length = l.length
  | [], _ => rfl
  | o :: r, k => by simp [rowsO, rowsO_len p Q r (k + 1)]
theorem rowsO_none (p Q : Nat) : ∀ (l : List Obj) (k : Nat), (p < k ∨ k + l.length ≤ p) → rowsO p Q k l = dRows (l.map Obj.enc)
  | [], _, _ => rfl
  | o :: r, k, h => by
    simp only [List.length_cons] at h
    have hk : ¬ k = p := by omega
    simp only [rowsO, rowO, if_neg hk, rowsO_none p Q r (k + 1) (by omega)]
    rfl
theorem rowsO_get (p Q : Nat) : ∀ (l : List Obj) (k i : Nat), (rowsO p Q k l)[i]? = (l[i]?).map (rowO p Q (k + i))
  | [], k, i => by simp [rowsO]
  | o :: r, k, 0 => by simp [rowsO]
  | o :: r, k, i + 1 => by
    simp only [rowsO, List.getElem?_cons_succ, rowsO_get p Q r (k + 1) i]
    rw [show k + 1 + i = k + (i + 1) by omega]
theorem rowO_ren {σ : Nat → Nat} {p Q k : Nat} (o : Obj) : (rowO p Q k o).map (CC.ren σ) = rowO p (σ Q) k o := by
  by_cases h : k = p <;> simp [rowO, h, CC.ren]
theorem rowsO_ren {σ : Nat → Nat} (p Q : Nat) : ∀ (l : List Obj) (k : Nat), (rowsO p Q k l).map (fun cs => cs.map (CC.ren σ)) = rowsO p (σ Q) k l
  | [], _ => rfl
  | o :: r, k => by
    simp only [rowsO, List.map_cons, rowsO_ren p Q r (k + 1)]
    rw [rowO_ren]

def c8 : LF := ⟨47, [.tmp 2], (.seq (.reg [
    ⟨(some 2), .mov (.c (.rv (.one .esl))), none⟩]) (.seq (.reg [
    ⟨(some 3), .mov (.c (.rv (.one .esl))), none⟩]) (.seq (.seq (.reg [
    ⟨(some 9), .mov (.t 0), none⟩,
    ⟨(some 10), .len 1 (.t 9), none⟩,
    ⟨(some 11), .mov (.c (.rv (.one (.dat (.val (.int .i64 (0))))))), none⟩]) (.block 0 (.loop (.seq (.reg [
    ⟨(some 12), .bin .lss (.t 11) (.t 10), none⟩]) (.seq (.cond (.t 12) .skip (.exit 0)) (.seq (.block 1 (.seq (.reg [
    ⟨(some 13), .idx 9 (.t 9) (.t 11), none⟩,
    ⟨(some 14), .load true 9 (.t 13), none⟩,
    ⟨(some 5), .alloc [(.dat (.val (.int .i64 (0)))), .esl, .esl, (.dat (.val (.string ⟨#[]⟩))), (.dat (.val (.int .i64 (0)))), .esl, (.dat (.val (.int .i64 (0)))), (.dat (.val (.int .i64 (0)))), (.dat (.val (.int .i64 (0))))], none⟩,
    ⟨none, .store 9 (.t 5) (.t 14), none⟩]) (.seq (.draw [
    ⟨(some 15), .fadr 1 (.t 5), none⟩,
    ⟨(some 16), .load false 1 (.t 15), none⟩,
    ⟨(some 17), .call (.c (.rv (.one (.fn 29 [])))) [(.t 16)], none⟩,
    ⟨(some 18), .fadr 2 (.t 5), none⟩,
    ⟨(some 19), .load false 1 (.t 18), none⟩,
    ⟨(some 20), .call (.c (.rv (.one (.fn 30 [])))) [(.t 19)], none⟩,
    ⟨(some 21), .fadr 1 (.t 5), none⟩,
    ⟨none, .store 1 (.t 21) (.t 17), none⟩,
    ⟨(some 22), .fadr 2 (.t 5), none⟩,
    ⟨none, .store 1 (.t 22) (.t 20), none⟩]
    [(.cons 0 none (.cons 1 none (.cons 3 none (.cons 4 none (.cons 2 (some [4]) (.cons 6 none (.cons 5 (some []) (.cons 7 (some []) (.cons 8 none (.cons 9 (some []) .nil))))))))))]) (.seq (.reg [
    ⟨(some 6), .mov (.c (.rv (.one .esl))), none⟩]) (.seq (.seq (.reg [
    ⟨(some 23), .fadr 5 (.t 5), none⟩,
    ⟨(some 24), .load false 1 (.t 23), none⟩,
    ⟨(some 25), .len 1 (.t 24), none⟩,
    ⟨(some 26), .mov (.c (.rv (.one (.dat (.val (.int .i64 (0))))))), none⟩]) (.block 2 (.loop (.seq (.reg [
    ⟨(some 27), .bin .lss (.t 26) (.t 25), none⟩]) (.seq (.cond (.t 27) .skip (.exit 2)) (.seq (.block 3 (.seq (.reg [
    ⟨(some 28), .idx 4 (.t 24) (.t 26), none⟩,
    ⟨(some 29), .load true 4 (.t 28), none⟩,
    ⟨(some 8), .alloc [.esl, (.dat (.val (.bool false))), (.dat (.val (.int .i64 (0)))), (.dat (.val (.int .i64 (0))))], none⟩,
    ⟨none, .store 4 (.t 8) (.t 29), none⟩]) (.seq (.reg [
    ⟨(some 30), .fadr 0 (.t 8), none⟩,
    ⟨(some 31), .load false 1 (.t 30), none⟩,
    ⟨(some 32), .call (.c (.rv (.one (.fn 29 [])))) [(.t 31)], none⟩,
    ⟨(some 33), .fadr 0 (.t 8), none⟩,
    ⟨none, .store 1 (.t 33) (.t 32), none⟩]) (.reg [
    ⟨(some 34), .mov (.t 6), none⟩,
    ⟨(some 35), .load true 4 (.t 8), none⟩,
    ⟨(some 36), .bsl 4 [.esl, (.dat (.val (.bool false))), (.dat (.val (.int .i64 (0)))), (.dat (.val (.int .i64 (0))))] 1 [(0, (.t 35))], none⟩,
    ⟨(some 37), .app 4 48 (.t 34) (.t 36), none⟩,
    ⟨(some 6), .mov (.t 37), none⟩])))) (.reg [
    ⟨(some 38), .bin .add (.t 26) (.c (.rv (.one (.dat (.val (.int .i64 (1))))))), none⟩,
    ⟨(some 26), .mov (.t 38), none⟩]))))))) (.seq (.reg [
    ⟨(some 39), .mov (.t 6), none⟩,
    ⟨(some 40), .fadr 5 (.t 5), none⟩,
    ⟨none, .store 1 (.t 40) (.t 39), none⟩]) (.reg [
    ⟨(some 41), .mov (.t 3), none⟩,
    ⟨(some 42), .load true 9 (.t 5), none⟩,
    ⟨(some 43), .bsl 9 [(.dat (.val (.int .i64 (0)))), .esl, .esl, (.dat (.val (.string ⟨#[]⟩))), (.dat (.val (.int .i64 (0)))), .esl, (.dat (.val (.int .i64 (0)))), (.dat (.val (.int .i64 (0)))), (.dat (.val (.int .i64 (0))))] 1 [(0, (.t 42))], none⟩,
    ⟨(some 44), .app 9 128 (.t 41) (.t 43), none⟩,
    ⟨(some 3), .mov (.t 44), none⟩]))))))) (.reg [
    ⟨(some 45), .bin .add (.t 11) (.c (.rv (.one (.dat (.val (.int .i64 (1))))))), none⟩,
    ⟨(some 11), .mov (.t 45), none⟩]))))))) (.seq (.reg [
    ⟨(some 46), .mov (.t 3), none⟩,
    ⟨(some 2), .mov (.t 46), none⟩]) .ret))))⟩
/-! Own -/
def quO (l : List Obj) (p : Nat) : List Msg := match l[p]? with | some o => o.queue | none => []
def qbO (l : List Obj) (p k : Nat) : Bk := match Nat.blt p k with | true => .row 4 (dRows ((quO l p).map Msg.enc)) | false => .dead
theorem qbO_ren {σ : Nat → Nat} (l : List Obj) (p k : Nat) : (qbO l p k).ren σ = qbO l p k := by
  unfold qbO
  split
  · exact Bk.ren_dRows _ _
  · rfl
theorem takeO {α : Type} {l : List α} {i : Nat} {s : α} (h : l[i]? = some s) : l.take (i + 1) = l.take i ++ [s] := by
  rw [List.take_add_one, h]; rfl
theorem dRows_append (a b : List (List Dt)) : dRows (a ++ b) = dRows a ++ dRows b := by simp [dRows]
theorem rowsO_take {p Q : Nat} {l : List Obj} {k : Nat} {o : Obj} (h : l[k]? = some o) : rowsO p Q 0 (l.take (k + 1)) = rowsO p Q 0 (l.take k) ++ [rowO p Q k o] := by
  have hk := (List.getElem?_eq_some_iff.1 h).1
  rw [takeO h, rowsO_append, List.length_take, Nat.min_eq_left (by omega), Nat.zero_add]
  rfl
theorem l8 : lowF Try.prog Try.f8 = some c8 := by kernel_rfl
set_option maxRecDepth 100000 in
set_option maxHeartbeats 8000000 in
theorem own_body (l : List Obj) (hf : fitL l) (p : Nat) : body Try.prog c8 [objsV l] [] (fun r m => r = .rv (.one (.row 0 9 0 none)) ∧ m = [.row 9 (rowsO p 1 0 l), qbO l p l.length]) := by
  obtain ⟨hl, hfo⟩ := hf
  refine loop_keep (fun k => k ≤ l.length) [0, 9, 10] (fun k => [(11, vInt .i64 (k : Nat)), (3, .rv (.one (.row 0 9 0 none)))]) (fun k => [.row 9 (rowsO p 1 0 (l.take k)), qbO l p k]) (fun k => l.length - k) 0 (Nat.zero_le _) ?_ (fun k hk => ?_)
  · refine View.trans (View.esl 2 4 0 rfl rfl rfl) (View.trans (View.esl 3 9 1 rfl rfl rfl) (View.of 2 [1, 0] [] rfl rfl rfl rfl rfl rfl ?_ ?_))
    · repeat (first | exact .nil | refine .junk ?_ | refine .eq rfl ?_)
    · exact .put (by simp [memN]) rfl (.eq rfl (by simp)) (.dead (.nil _))
  · refine bB_dec (fun h => ?_) (fun h => ?_)
    · have hlt : k < l.length := by
        have h : (k : Int) < ((l.map Obj.enc).length : Int) := h
        rw [List.length_map] at h
        omega
      have hi := List.getElem?_eq_getElem hlt
      have hof := hfo _ (List.getElem_mem hlt)
      have hg : getZ (l.map Obj.enc) (k : Nat) = some (l[k].enc) := by
        rw [getZ_nat, List.getElem?_map, List.getElem?_eq_getElem hlt]; rfl
      generalize l[k] = o at hi hof hg
      obtain ⟨kind, data, entries, target, peer, queue, proc, links, up⟩ := o
      obtain ⟨hf1, hf2, hf3, hf4⟩ := hof
      have hf1 : data.length ≤ 4194304 := hf1
      have hf2 : entries.length ≤ 4194304 := hf2
      have hf3 : queue.length ≤ 4194304 := hf3
      have hf4 : ∀ q, q ∈ queue → q.data.length ≤ 4194304 := hf4
      have hg : getZ (l.map Obj.enc) (k : Nat) = some [.val (.int .i64 kind), .sl 1 data, .sl 2 entries, .val (.string target), .val (.int .i64 peer), .sl 4 (queue.map Msg.enc), .val (.int .i64 proc), .val (.int .i64 links), .val (.int .i64 up)] := hg
      refine ok_some hg ?_
      refine bclone_ok data hf1 ?_
      refine ⟨⟨rfl, trivial⟩, ?_⟩
      refine eclone_ok entries hf2 ?_
      refine ⟨trivial, ?_⟩
      refine ⟨trivial, ?_⟩
      refine ⟨trivial, ?_⟩
      refine loop_keep (fun j => j ≤ queue.length) [0, 3, 5, 9, 10, 11, 24, 25] (fun j => [(26, vInt .i64 (j : Nat)), (6, .rv (.one (.row 3 4 0 none)))])
        (fun j => [.row 9 (rowsO p 1 0 (l.take k)), qbO l p k, .var ((⟨kind, data, entries, target, peer, queue, proc, links, up⟩ : Obj).enc.map .dat), .row 4 (dRows ((queue.take j).map Msg.enc))]) (fun j => queue.length - j) 0 (Nat.zero_le _) ?_ (fun j hj => ?_)
      · refine View.trans (View.esl 6 4 3 rfl rfl rfl) (View.of 4 [0, 1, 2, 3] [] rfl rfl rfl rfl rfl rfl ?_ ?_)
        · repeat (first | exact .nil | refine .junk ?_ | refine .eq rfl ?_)
        · exact .put (notF rfl) rfl (.eq (congrArg (Bk.row 9) (rowsO_ren p 1 _ _)) (by simp)) (.keepB (notF rfl) rfl (qbO_ren l p k) (.put (notF rfl) rfl (.eq rfl (by simp)) (.put (notF rfl) rfl (.rowDE rfl) (.nil _))))
      · have hj : j ≤ queue.length := hj
        refine bB_dec (fun h => ?_) (fun h => ?_)
        · have hjlt : j < queue.length := by
            have h : (j : Int) < ((queue.map Msg.enc).length : Int) := h
            rw [List.length_map] at h
            omega
          have hqi := List.getElem?_eq_getElem hjlt
          have hqf := hf4 _ (List.getElem_mem hjlt)
          generalize queue[j] = q at hqi hqf
          obtain ⟨qd, qh, qo, qr⟩ := q
          have hg2 : getZ (queue.map Msg.enc) (j : Nat) = some [.sl 1 qd, .val (.bool qh), .val (.int .i64 qo), .val (.int .i64 qr)] := by
            rw [getZ_nat, List.getElem?_map, hqi]; rfl
          refine ok_some hg2 ?_
          refine bclone_ok qd hqf ?_
          refine ⟨?_, ?_⟩
          · show ((dRows ((queue.take j).map Msg.enc)).length + 1) * 48 ≤ _
            simp [dRows]; omega
          refine ⟨j + 1, hjlt, (show queue.length - (j + 1) < queue.length - j by omega), View.of 7 [0, 1, 2, 6] [] rfl rfl rfl rfl rfl rfl ?_ ?_⟩
          · repeat (first | exact .nil | refine .junk ?_ | refine .put (.ren (next_i64 (by omega)).symm) ?_ | refine .eq rfl ?_)
          · refine .put (notF rfl) rfl (.eq (congrArg (Bk.row 9) (rowsO_ren p 1 _ _)) (by simp)) (.keepB (notF rfl) rfl (qbO_ren l p k) (.put (notF rfl) rfl (.eq rfl (by simp)) (.put (notF rfl) rfl (.rowDE ?_) (.nil _))))
            rw [takeO hqi, List.map_append, dRows_append]
            rfl
        · have hge : ¬ (j : Int) < ((queue.map Msg.enc).length : Int) := h
          rw [List.length_map] at hge
          have hq : queue.take j = queue := List.take_of_length_le (by omega)
          refine ⟨?_, ?_⟩
          · show ((rowsO p 1 0 (l.take k)).length + 1) * 128 ≤ _
            rw [rowsO_len]; simp; omega
          by_cases hkp : k = p
          · subst hkp
            have hR : ∀ Q, rowsO k Q 0 (l.take k) = dRows ((l.take k).map Obj.enc) := fun Q => rowsO_none k Q _ 0 (.inr (by simp; omega))
            have hqb : qbO l k (k + 1) = .row 4 (dRows ((queue.take j).map Msg.enc)) := by
              have : Nat.blt k (k + 1) = true := by rw [Nat.blt_eq]; omega
              simp only [qbO, this, quO, hi, hq]
            refine ⟨k + 1, hlt, (show l.length - (k + 1) < l.length - k by omega), View.of 6 [5, 3] [] rfl rfl rfl rfl rfl rfl ?_ ?_⟩
            · repeat (first | exact .nil | refine .junk ?_ | refine .put (.ren (next_i64 (by omega)).symm) ?_ | refine .eq rfl ?_)
            · rw [rowsO_take hi, hqb]
              refine .put (notF rfl) rfl (.snoc ?_ rfl ?_) (.put (notF rfl) rfl (.rowDE rfl) (.nil _))
              · rw [rowsO_ren, hR, hR]; rfl
              · intro j c c' h1 h2
                have e5 : rowO k 1 k ⟨kind, data, entries, target, peer, queue, proc, links, up⟩ = [.dat (.val (.int .i64 kind)), .dat (.sl 1 data), .dat (.sl 2 entries), .dat (.val (.string target)), .dat (.val (.int .i64 peer)), .row 1 4 0 none, .dat (.val (.int .i64 proc)), .dat (.val (.int .i64 links)), .dat (.val (.int .i64 up))] := by
                  simp [rowO]
                rw [e5] at h2
                match j, h1, h2 with
                | 0, h1, h2 => cases h1; cases h2; exact .ren (.dat _)
                | 1, h1, h2 => cases h1; cases h2; exact .ren (.dat _)
                | 2, h1, h2 => cases h1; cases h2; exact .ren (.dat _)
                | 3, h1, h2 => cases h1; cases h2; exact .ren (.dat _)
                | 4, h1, h2 => cases h1; cases h2; exact .ren (.dat _)
                | 5, h1, h2 => cases h1; cases h2; exact .ren (.row 1 4 0 none)
                | 6, h1, h2 => cases h1; cases h2; exact .ren (.dat _)
                | 7, h1, h2 => cases h1; cases h2; exact .ren (.dat _)
                | 8, h1, h2 => cases h1; cases h2; exact .ren (.dat _)
                | n + 9, h1, h2 => simp at h1
          · have hqb : qbO l p (k + 1) = qbO l p k := by
              have : Nat.blt p (k + 1) = Nat.blt p k := by
                rw [Bool.eq_iff_iff, Nat.blt_eq, Nat.blt_eq]; omega
              simp only [qbO, this]
            refine ⟨k + 1, hlt, (show l.length - (k + 1) < l.length - k by omega), View.of 6 [5, 1] [3] rfl rfl rfl rfl rfl rfl ?_ ?_⟩
            · repeat (first | exact .nil | refine .junk ?_ | refine .put (.ren (next_i64 (by omega)).symm) ?_ | refine .eq rfl ?_)
            · rw [rowsO_take hi, hqb]
              refine .put (notF rfl) rfl (.snoc (rowsO_ren p 1 _ _) rfl ?_) (.keepB (notF rfl) rfl (qbO_ren l p k) (.nil _))
              intro j' c c' h1 h2
              have e5 : rowO p 1 k ⟨kind, data, entries, target, peer, queue, proc, links, up⟩ = [.dat (.val (.int .i64 kind)), .dat (.sl 1 data), .dat (.sl 2 entries), .dat (.val (.string target)), .dat (.val (.int .i64 peer)), .dat (.sl 4 ((queue.take j).map Msg.enc)), .dat (.val (.int .i64 proc)), .dat (.val (.int .i64 links)), .dat (.val (.int .i64 up))] := by
                simp [rowO, hkp, hq]
              rw [e5] at h2
              match j', h1, h2 with
              | 0, h1, h2 => cases h1; cases h2; exact .ren (.dat _)
              | 1, h1, h2 => cases h1; cases h2; exact .ren (.dat _)
              | 2, h1, h2 => cases h1; cases h2; exact .ren (.dat _)
              | 3, h1, h2 => cases h1; cases h2; exact .ren (.dat _)
              | 4, h1, h2 => cases h1; cases h2; exact .ren (.dat _)
              | 5, h1, h2 => cases h1; cases h2; exact .frz (FrzD.rowD (Z := fun k => memN [3] k = true) rfl (by rw [← nth_eq]; rfl) 0 none)
              | 6, h1, h2 => cases h1; cases h2; exact .ren (.dat _)
              | 7, h1, h2 => cases h1; cases h2; exact .ren (.dat _)
              | 8, h1, h2 => cases h1; cases h2; exact .ren (.dat _)
              | n + 9, h1, h2 => simp at h1
    · have hge : ¬ (k : Int) < ((l.map Obj.enc).length : Int) := h
      rw [List.length_map] at hge
      have hkl : k = l.length := by
        have : k ≤ l.length := hk
        omega
      subst hkl
      rw [List.take_length]
      exact ⟨rfl, rfl⟩
set_option maxRecDepth 100000 in
theorem own_ok (l : List Obj) (hf : fitL l) (p : Nat) {m : Mem} {K : CV → Mem → Prop} (h : K (.rv (.one (.row m.length 9 0 none))) (m ++ [.row 9 (rowsO p (m.length + 1) 0 l), qbO l p l.length])) : ACall Try.prog 8 [objsV l] m K := by
  refine acall_borrow [] m.length rfl rfl rfl rfl rfl (fun i b' hi => by simp at hi) (acall_body Try.func8 l8 rfl (Nat.le_of_ble_eq_true rfl) (own_body l hf p)) (fun r m1 hr => ?_)
  obtain ⟨h1, h2⟩ := hr
  subst h1
  subst h2
  refine ⟨Nat.zero_le _, ?_⟩
  show K (.rv (.one (.row (m.length + (0 - 0)) 9 0 none))) (app2 m [.row 9 ((rowsO p 1 0 l).map (fun cs => cs.map (CC.ren (sg [] m.length)))), (qbO l p l.length).ren (sg [] m.length)])
  rw [rowsO_ren, qbO_ren, app2_eq]
  exact h

def c12 : LF := ⟨34, [.tmp 4, .tmp 5, .tmp 6], (.seq (.reg [
    ⟨(some 3), .box (.t 1), none⟩,
    ⟨(some 4), .mov (.c (.rv (.one .esl))), none⟩,
    ⟨(some 5), .mov (.c (.rv (.one (.dat (.val (.int .i64 (0))))))), none⟩,
    ⟨(some 6), .mov (.c (.rv (.one (.dat (.val (.int .i64 (0))))))), none⟩]) (.seq (.reg [
    ⟨(some 9), .mov (.t 0), none⟩,
    ⟨(some 10), .call (.c (.rv (.one (.fn 35 [])))) [(.t 9), (.c (.rv (.one (.fn 36 []))))], none⟩,
    ⟨(some 7), .mov (.t 10), none⟩]) (.seq (.seq (.reg [
    ⟨(some 11), .mov (.t 7), none⟩,
    ⟨(some 12), .bin .lss (.t 11) (.c (.rv (.one (.dat (.val (.int .i64 (0))))))), none⟩]) (.cond (.t 12) (.seq (.seq (.reg [
    ⟨(some 13), .mov (.t 0), none⟩,
    ⟨(some 14), .len 1 (.t 13), none⟩,
    ⟨(some 15), .bin .geq (.t 14) (.c (.rv (.one (.dat (.val (.int .i64 (40))))))), none⟩]) (.cond (.t 15) (.seq (.reg [
    ⟨(some 4), .mov (.c (.rv (.one .esl))), none⟩,
    ⟨(some 5), .mov (.c (.rv (.one (.dat (.val (.int .i64 (0))))))), none⟩,
    ⟨(some 6), .mov (.c (.rv (.one (.dat (.val (.int .i64 (15))))))), none⟩]) .ret) .skip)) (.reg [
    ⟨(some 16), .mov (.t 0), none⟩,
    ⟨(some 17), .len 1 (.t 16), none⟩,
    ⟨(some 7), .mov (.t 17), none⟩])) .skip)) (.seq (.reg [
    ⟨(some 18), .mov (.t 0), none⟩,
    ⟨(some 19), .call (.c (.rv (.one (.fn 8 [])))) [(.t 18)], none⟩,
    ⟨(some 8), .mov (.t 19), none⟩]) (.seq (.seq (.reg [
    ⟨(some 20), .mov (.t 7), none⟩,
    ⟨(some 21), .mov (.t 8), none⟩,
    ⟨(some 22), .len 1 (.t 21), none⟩,
    ⟨(some 23), .bin .eql (.t 20) (.t 22), none⟩]) (.cond (.t 23) (.reg [
    ⟨(some 24), .mov (.t 8), none⟩,
    ⟨(some 25), .build [(.dat (.val (.int .i64 (0)))), .esl, .esl, (.dat (.val (.string ⟨#[]⟩))), (.dat (.val (.int .i64 (0)))), .esl, (.dat (.val (.int .i64 (0)))), (.dat (.val (.int .i64 (0)))), (.dat (.val (.int .i64 (0))))] [], none⟩,
    ⟨(some 26), .bsl 9 [(.dat (.val (.int .i64 (0)))), .esl, .esl, (.dat (.val (.string ⟨#[]⟩))), (.dat (.val (.int .i64 (0)))), .esl, (.dat (.val (.int .i64 (0)))), (.dat (.val (.int .i64 (0)))), (.dat (.val (.int .i64 (0))))] 1 [(0, (.t 25))], none⟩,
    ⟨(some 27), .app 9 128 (.t 24) (.t 26), none⟩,
    ⟨(some 8), .mov (.t 27), none⟩]) .skip)) (.seq (.reg [
    ⟨(some 28), .mov (.t 8), none⟩,
    ⟨(some 29), .mov (.t 7), none⟩,
    ⟨(some 30), .load true 9 (.t 3), none⟩,
    ⟨(some 31), .idx 9 (.t 28) (.t 29), none⟩,
    ⟨none, .store 9 (.t 31) (.t 30), none⟩]) (.seq (.reg [
    ⟨(some 32), .mov (.t 8), none⟩,
    ⟨(some 33), .mov (.t 7), none⟩,
    ⟨(some 4), .mov (.t 32), none⟩,
    ⟨(some 5), .mov (.t 33), none⟩,
    ⟨(some 6), .mov (.c (.rv (.one (.dat (.val (.int .i64 (0))))))), none⟩]) .ret)))))))⟩
def c35 : LF := ⟨19, [.tmp 4], (.seq (.reg [
    ⟨(some 4), .mov (.c (.rv (.one (.dat (.val (.int .i64 (0))))))), none⟩]) (.seq (.seq (.reg [
    ⟨(some 6), .mov (.t 0), none⟩,
    ⟨(some 7), .len 1 (.t 6), none⟩,
    ⟨(some 8), .mov (.c (.rv (.one (.dat (.val (.int .i64 (0))))))), none⟩]) (.block 0 (.loop (.seq (.reg [
    ⟨(some 9), .bin .lss (.t 8) (.t 7), none⟩]) (.seq (.cond (.t 9) .skip (.exit 0)) (.seq (.block 1 (.seq (.reg [
    ⟨(some 10), .mov (.t 8), none⟩,
    ⟨(some 5), .mov (.t 10), none⟩]) (.seq (.reg [
    ⟨(some 11), .mov (.t 1), none⟩,
    ⟨(some 12), .mov (.t 0), none⟩,
    ⟨(some 13), .mov (.t 5), none⟩,
    ⟨(some 14), .idx 9 (.t 12) (.t 13), none⟩,
    ⟨(some 15), .load true 9 (.t 14), none⟩,
    ⟨(some 16), .call (.t 11) [(.t 15)], none⟩]) (.cond (.t 16) (.seq (.reg [
    ⟨(some 17), .mov (.t 5), none⟩,
    ⟨(some 4), .mov (.t 17), none⟩]) .ret) .skip)))) (.reg [
    ⟨(some 18), .bin .add (.t 8) (.c (.rv (.one (.dat (.val (.int .i64 (1))))))), none⟩,
    ⟨(some 8), .mov (.t 18), none⟩]))))))) (.seq (.reg [
    ⟨(some 4), .mov (.c (.rv (.one (.dat (.val (.int .i64 (-1))))))), none⟩]) .ret)))⟩
def c36 : LF := ⟨6, [.tmp 2], (.seq (.reg [
    ⟨(some 1), .box (.t 0), none⟩,
    ⟨(some 2), .mov (.c (.rv (.one (.dat (.val (.bool false)))))), none⟩]) (.seq (.reg [
    ⟨(some 3), .fadr 0 (.t 1), none⟩,
    ⟨(some 4), .load false 1 (.t 3), none⟩,
    ⟨(some 5), .bin .eql (.t 4) (.c (.rv (.one (.dat (.val (.int .i64 (0))))))), none⟩,
    ⟨(some 2), .mov (.t 5), none⟩]) .ret))⟩
def idxG {α : Type} (q : α → Bool) (l : List α) : Int := match l.findIdx? q with | some k => (k : Int) | none => -1
theorem idxG_found {α : Type} {q : α → Bool} {l : List α} {k : Nat} (h : k < l.length) (hq : q l[k] = true) (hb : ∀ (j : Nat) s, j < k → l[j]? = some s → q s = false) : idxG q l = k := by
  have : l.findIdx? q = some k := by
    rw [List.findIdx?_eq_some_iff_getElem]
    exact ⟨h, hq, fun j hj => by simpa using hb j _ hj (List.getElem?_eq_getElem (by omega))⟩
  rw [idxG, this]
theorem idxG_none {α : Type} {q : α → Bool} {l : List α} (hb : ∀ (j : Nat) s, l[j]? = some s → q s = false) : idxG q l = -1 := by
  have : l.findIdx? q = none := by
    rw [List.findIdx?_eq_none_iff]
    intro s hs
    obtain ⟨i, hi⟩ := List.getElem?_of_mem hs
    simpa using hb i s hi
  rw [idxG, this]
theorem idxG_any {α : Type} (q : α → Bool) (l : List α) : decide (idxG q l ≥ 0) = l.any q := by
  unfold idxG
  cases h : l.findIdx? q with
  | none =>
    rw [List.findIdx?_eq_none_iff] at h
    have : l.any q = false := by simpa using h
    rw [this]; rfl
  | some k =>
    obtain ⟨h1, h2, _⟩ := List.findIdx?_eq_some_iff_getElem.1 h
    have : l.any q = true := List.any_eq_true.2 ⟨_, List.getElem_mem h1, h2⟩
    rw [this]
    exact decide_eq_true (by simp)
theorem l12 : lowF Try.prog Try.f12 = some c12 := by kernel_rfl
theorem l35 : lowF Try.prog Try.f35 = some c35 := by kernel_rfl
theorem l36 : lowF Try.prog Try.f36 = some c36 := by kernel_rfl
set_option maxRecDepth 100000 in
set_option maxHeartbeats 4000000 in
theorem idx111A_body (l : List Obj) (hb : l.length ≤ 4194304) (F : Nat) (q : Obj → Bool) (hF : ∀ s, s ∈ l → ∀ K : CV → Mem → Prop, K (vBool (q s)) [] → ACall Try.prog F [s.cv] [] K) : body Try.prog c35 [objsV l, (.rv (.one (.fn F [])))] [] (fun r m => r = vInt .i64 (idxG q l)) := by
  refine loop_keep (fun k => k ≤ l.length ∧ ∀ (j : Nat) s, j < k → l[j]? = some s → q s = false) [0, 1, 7] (fun k => [(8, vInt .i64 (k : Nat))]) (fun _ => []) (fun k => l.length - k) 0 ⟨Nat.zero_le _, fun j s h => absurd h (Nat.not_lt_zero j)⟩ ?_ (fun k hk => ?_)
  · refine View.of 0 [] [] rfl rfl rfl rfl rfl rfl ?_ ?_
    · repeat (first | exact .nil | refine .junk ?_ | refine .eq rfl ?_)
    · exact .nil _
  · refine bB_dec (fun h => ?_) (fun h => ?_)
    · have hlt : k < l.length := by
        have h : (k : Int) < ((l.map Obj.enc).length : Int) := h
        rw [List.length_map] at h
        omega
      have hg : getZ (l.map Obj.enc) (k : Nat) = some (l[k].enc) := by
        rw [getZ_nat, List.getElem?_map, List.getElem?_eq_getElem hlt]; rfl
      refine ok_some hg ?_
      refine hF l[k] (List.getElem_mem hlt) _ ?_
      refine bB_split (fun h => ?_) (fun h => ?_)
      · rw [idxG_found hlt h hk.2]
        exact rfl
      · refine ⟨k + 1, ⟨hlt, fun j s hj hs => ?_⟩, (show l.length - (k + 1) < l.length - k by omega), View.of 0 [] [] rfl rfl rfl rfl rfl rfl ?_ ?_⟩
        · rcases Nat.lt_or_ge j k with h5 | h5
          · exact hk.2 j s h5 hs
          · have : j = k := by omega
            subst this
            rw [List.getElem?_eq_getElem hlt] at hs
            cases hs
            exact h
        · repeat (first | exact .nil | refine .junk ?_ | refine .put (.ren (next_i64 (by omega)).symm) ?_ | refine .eq rfl ?_)
        · exact .nil _
    · have hge : ¬ (k : Int) < ((l.map Obj.enc).length : Int) := h
      rw [List.length_map] at hge
      rw [idxG_none fun j s hs => hk.2 j s (by have := (List.getElem?_eq_some_iff.1 hs).1; omega) hs]
      exact rfl
set_option maxRecDepth 100000 in
theorem idx111A_ok (l : List Obj) (hb : l.length ≤ 4194304) (F : Nat) (q : Obj → Bool) (hF : ∀ s, s ∈ l → ∀ K : CV → Mem → Prop, K (vBool (q s)) [] → ACall Try.prog F [s.cv] [] K) {m : Mem} {K : CV → Mem → Prop} (h : K (vInt .i64 (idxG q l)) m) : ACall Try.prog 35 [objsV l, .rv (.one (.fn F []))] m K :=
  acall_val Try.func35 l35 rfl (Nat.le_of_ble_eq_true rfl) (idx111A_body l hb F q hF) rfl rfl h
set_option maxRecDepth 100000 in
theorem clo112 (s : Obj) (K : CV → Mem → Prop) (h : K (vBool (s.kind == 0)) []) : ACall Try.prog 36 [s.cv] [] K :=
  acall_val Try.func36 l36 rfl (Nat.le_of_ble_eq_true rfl) (show body Try.prog c36 [s.cv] [] (fun r m => r = vBool (s.kind == 0)) from rfl) rfl rfl h
theorem own_all (l : List Obj) (hf : fitL l) {m : Mem} {K : CV → Mem → Prop} (h : K (.rv (.one (.row m.length 9 0 none))) (m ++ [.row 9 (dRows (l.map Obj.enc)), .dead])) : ACall Try.prog 8 [objsV l] m K := by
  refine own_ok l hf l.length ?_
  have h1 : qbO l l.length l.length = .dead := by
    have : Nat.blt l.length l.length = false := by
      cases hb : Nat.blt l.length l.length with
      | false => rfl
      | true => rw [Nat.blt_eq] at hb; omega
    simp only [qbO, this]
  rw [rowsO_none _ _ _ _ (.inr (by omega)), h1]
  exact h
def iRV (n : Int) : RV := .one (.dat (.val (.int .i64 n)))
def makeS (l : List Obj) (o : Obj) : List Obj × Int × Int :=
  match l.findIdx? (fun x => x.kind == 0) with
  | some k => (l.set k o, k, 0)
  | none => if l.length ≥ 40 then ([], 0, 15) else (l ++ [o], l.length, 0)
def makeP (l : List Obj) (o : Obj) (r : CV) (m : Mem) : Prop :=
  ((makeS l o).2.2 = 15 ∧ r = .tup [.one .esl, iRV (makeS l o).2.1, iRV (makeS l o).2.2] ∧ m = []) ∨
  ((makeS l o).2.2 = 0 ∧ r = .tup [.one (.row 0 9 0 none), iRV (makeS l o).2.1, iRV (makeS l o).2.2] ∧ m = [.row 9 (dRows ((makeS l o).1.map Obj.enc))])
theorem dRows_set (l : List Obj) (k : Nat) (o : Obj) : (dRows (l.map Obj.enc)).set k (o.enc.map .dat) = dRows ((l.set k o).map Obj.enc) := by
  simp [dRows, List.map_set]
theorem dRows_nth (l : List Obj) {k : Nat} (h : k < l.length) : nth (dRows (l.map Obj.enc)) k = some (l[k].enc.map .dat) := by
  rw [nth_eq]; simp [dRows, h]
set_option maxRecDepth 100000 in
set_option maxHeartbeats 8000000 in
theorem make_body (l : List Obj) (hf : fitL l) (o : Obj) : body Try.prog c12 [objsV l, o.cv] [] (fun r m => ∃ r' m', View 0 ⟨[r], m⟩ ⟨[r'], m'⟩ ∧ makeP l o r' m') := by
  have hl := hf.1
  refine idx111A_ok l hl 36 (fun x => x.kind == 0) (fun s _ K hs => clo112 s K hs) ?_
  have hlen : (dRows (l.map Obj.enc)).length = l.length := by simp [dRows]
  cases hk : l.findIdx? (fun x => x.kind == 0) with
  | some k =>
    have hi : idxG (fun x : Obj => x.kind == 0) l = (k : Int) := by rw [idxG, hk]
    have hkl : k < l.length := (List.findIdx?_eq_some_iff_getElem.1 hk).1
    have hm : makeS l o = (l.set k o, (k : Int), 0) := by rw [makeS, hk]
    rw [hi]
    refine own_all l hf ?_
    refine bB_no (by simp [hlen, lenOf]; omega) ?_
    refine ok_some (idxZ_nat (k := k) (by simp [hlen, lenOf]; omega)) ?_
    refine ok_some (x := l[k].enc.map .dat) (by simpa [addN] using dRows_nth l hkl) ?_
    refine ⟨.tup [.one (.row 0 9 0 none), iRV k, iRV 0], [.row 9 (dRows ((l.set k o).map Obj.enc))], View.of 3 [1] [] rfl rfl rfl rfl rfl rfl ?_ ?_, .inr ?_⟩
    · exact .eq rfl .nil
    · refine .put (notF rfl) rfl (.rowDE ?_) (.nil _)
      rw [← dRows_set]
      simp [setN_eq, addN, Obj.enc]
    · rw [hm]; exact ⟨rfl, rfl, rfl⟩
  | none =>
    have hi : idxG (fun x : Obj => x.kind == 0) l = -1 := by rw [idxG, hk]
    rw [hi]
    refine bB_dec (fun h => ?_) (fun h => ?_)
    · have h : l.length ≥ 40 := by
        have h : (((l.map Obj.enc).length : Nat) : Int) ≥ 40 := h
        rw [List.length_map] at h; omega
      have hm : makeS l o = ([], 0, 15) := by rw [makeS, hk]; simp only; rw [if_pos h]
      refine ⟨.tup [.one .esl, iRV 0, iRV 15], [], View.of 1 [] [] rfl rfl rfl rfl rfl rfl ?_ (.nil _), .inl ?_⟩
      · exact .eq rfl .nil
      · rw [hm]; exact ⟨rfl, rfl, rfl⟩
    · have h : ¬ l.length ≥ 40 := by
        have h : ¬ (((l.map Obj.enc).length : Nat) : Int) ≥ 40 := h
        rw [List.length_map] at h; omega
      have hm : makeS l o = (l ++ [o], (l.length : Int), 0) := by rw [makeS, hk]; simp only; rw [if_neg h]
      refine own_all l hf ?_
      refine bB_yes (by simp [hlen, lenOf]) ?_
      refine ⟨by simp [hlen, subL]; omega, ?_⟩
      have hlm : (l.map Obj.enc).length = l.length := by simp
      refine ok_some (idxZ_nat (k := (l.map Obj.enc).length) (by simp [hlen, lenOf, subL])) ?_
      refine ok_some (x := [.dat (.val (.int .i64 0)), .esl, .esl, .dat (.val (.string ⟨#[]⟩)), .dat (.val (.int .i64 0)), .esl, .dat (.val (.int .i64 0)), .dat (.val (.int .i64 0)), .dat (.val (.int .i64 0))]) (by simp [nth_eq, hlen, subL, addN]) ?_
      refine ⟨.tup [.one (.row 0 9 0 none), iRV (((l.map Obj.enc).length : Nat) : Int), iRV 0], [.row 9 (dRows ((l ++ [o]).map Obj.enc))], View.of 5 [4] [] rfl rfl rfl rfl rfl rfl ?_ ?_, .inr ?_⟩
      · exact .eq rfl .nil
      · refine .put (notF rfl) rfl (.rowDE ?_) (.nil _)
        rw [List.map_append, dRows_append]
        simp only [setN_eq, addN, subL]
        rw [hlm, ← hlen]
        rw [List.set_append_right _ _ (Nat.le_refl _), Nat.sub_self]
        rfl
      · rw [hm]
        refine ⟨rfl, ?_, rfl⟩
        rw [hlm]
set_option maxRecDepth 100000 in
theorem make_post (l : List Obj) (hf : fitL l) (o : Obj) : ACall Try.prog 12 [objsV l, o.cv] [] (makeP l o) :=
  acall_view (acall_body Try.func12 l12 rfl (Nat.le_of_ble_eq_true rfl) (make_body l hf o)) fun r m1 ⟨r', m', hv, hp⟩ => ⟨r', m', hv, hp⟩
def objsR (l : List Obj) : RV := .one (.dat (objsD l))
theorem frz3 {m : Mem} {a b c d : RV} {x : Int} (h : FrzR m a b) (hc : FrzR m c d) : FrzV m (.tup [a, c, iRV x]) (.tup [b, d, iRV x]) := by
  refine .tup rfl fun i r r' h1 h2 => ?_
  match i, h1, h2 with
  | 0, h1, h2 => cases h1; cases h2; exact h
  | 1, h1, h2 => cases h1; cases h2; exact hc
  | 2, h1, h2 => cases h1; cases h2; exact FrzR.self rfl
/-- a store as data -/
theorem make_ok (l : List Obj) (hf : fitL l) (o : Obj) {m : Mem} {K : CV → Mem → Prop} (h : K (.tup [objsR (makeS l o).1, iRV (makeS l o).2.1, iRV (makeS l o).2.2]) m) : ACall Try.prog 12 [objsV l, o.cv] m K := by
  refine acall_frame (make_post l hf o) (by simp [objsV, Obj.cv, CV.isD, CC.isD, RV.isD]) fun r m1 hp => ?_
  rcases hp with ⟨h1, rfl, rfl⟩ | ⟨h1, rfl, rfl⟩
  · have h2 : (makeS l o).1 = [] := by
      unfold makeS at h1 ⊢
      split at h1
      · simp at h1
      · split at h1
        · rename_i hc; rw [if_pos hc]
        · simp at h1
    refine ⟨_, frz3 (.one (.esl 9)) (FrzR.self rfl), ?_⟩
    rw [h2] at h
    exact h
  · refine ⟨_, frz3 (.one (FrzC.rowD rfl 0 none)) (FrzR.self rfl), ?_⟩
    exact h
/-- a store as a row of its own -/
theorem make_row (l : List Obj) (hf : fitL l) (o : Obj) {m : Mem} {K : CV → Mem → Prop} (h1 : (makeS l o).2.2 = 15 → K (.tup [.one .esl, iRV (makeS l o).2.1, iRV (makeS l o).2.2]) m)
    (h2 : (makeS l o).2.2 = 0 → K (.tup [.one (.row m.length 9 0 none), iRV (makeS l o).2.1, iRV (makeS l o).2.2]) (m ++ [.row 9 (dRows ((makeS l o).1.map Obj.enc))])) : ACall Try.prog 12 [objsV l, o.cv] m K := by
  refine acall_borrow [] m.length rfl rfl rfl rfl rfl (fun i b' hi => by simp at hi) (make_post l hf o) (fun r m1 hp => ⟨Nat.zero_le _, ?_⟩)
  rcases hp with ⟨e1, rfl, rfl⟩ | ⟨e1, rfl, rfl⟩
  · have := h1 e1
    show K _ (app2 m [])
    rw [app2_eq, List.append_nil]
    exact this
  · have := h2 e1
    show K _ (app2 m [Bk.ren _ _])
    rw [app2_eq, Bk.ren_dRows]
    exact this


/-! Pair -/
theorem make_at {l : List Obj} {o : Obj} (h : (makeS l o).2.2 = 0) : ∃ k : Nat, (makeS l o).2.1 = k ∧ k < (makeS l o).1.length ∧ (makeS l o).1[k]? = some o ∧ l.length ≤ (makeS l o).1.length ∧ (∀ j, j ≠ k → j < l.length → (makeS l o).1[j]? = l[j]?) := by
  unfold makeS at h ⊢
  split
  · rename_i k hk
    have hkl : k < l.length := (List.findIdx?_eq_some_iff_getElem.1 hk).1
    exact ⟨k, rfl, by simpa using hkl, by simp [hkl], by simp, fun j hj hjl => by simp [List.getElem?_set, Ne.symm hj]⟩
  · rename_i hk
    rw [hk] at h
    simp only at h
    split at h
    · simp at h
    · rename_i hc
      rw [if_neg hc]
      exact ⟨l.length, rfl, by simp, by simp, by simp, fun j hj hjl => by simp [List.getElem?_append_left hjl]⟩
theorem make_fit {l : List Obj} {o : Obj} (hf : fitL l) (ho : o.fit) : fitL (makeS l o).1 := by
  unfold makeS
  split
  · refine ⟨by simpa using hf.1, fun x hx => ?_⟩
    rcases List.mem_or_eq_of_mem_set hx with h | rfl
    · exact hf.2 x h
    · exact ho
  · split
    · exact ⟨by simp, by simp⟩
    · refine ⟨by simp; omega, fun x hx => ?_⟩
      rcases List.mem_append.1 hx with h | h
      · exact hf.2 x h
      · simp at h
        subst h
        exact ho
def endO (p : Int) : Obj := ⟨4, [], [], ⟨#[]⟩, p, [], -1, 0, 0⟩
theorem endO_fit (p : Int) : (endO p).fit := by simp [Obj.fit, endO]
def setPeer (l : List Obj) (k : Nat) (b : Int) : List Obj := match l[k]? with | some o => l.set k { o with peer := b } | none => l
def pairS (l : List Obj) : List Obj × (Int × Int) × Int :=
  if (makeS l (endO (-1))).2.2 ≠ 0 then ([], (0, 0), (makeS l (endO (-1))).2.2)
  else if (makeS (makeS l (endO (-1))).1 (endO (makeS l (endO (-1))).2.1)).2.2 ≠ 0 then ([], (0, 0), (makeS (makeS l (endO (-1))).1 (endO (makeS l (endO (-1))).2.1)).2.2)
  else (setPeer (makeS (makeS l (endO (-1))).1 (endO (makeS l (endO (-1))).2.1)).1 (makeS l (endO (-1))).2.1.toNat (makeS (makeS l (endO (-1))).1 (endO (makeS l (endO (-1))).2.1)).2.1, ((makeS l (endO (-1))).2.1, (makeS (makeS l (endO (-1))).1 (endO (makeS l (endO (-1))).2.1)).2.1), 0)
def twoR (x : Int × Int) : RV := .agg [.dat (.val (.int .i64 x.1)), .dat (.val (.int .i64 x.2))]
theorem endArgs (a b : CV) (p : Int) : ArgsL [a, .rv (.agg [.dat (.val (.int .i64 4)), .esl, .esl, .dat (.val (.string ⟨#[]⟩)), .dat (.val (.int .i64 p)), .esl, .dat (.val (.int .i64 (-1))), .dat (.val (.int .i64 0)), .dat (.val (.int .i64 0))])] [a, (endO p).cv] :=
  .same _ (.agg (.cons (.same _) (.cons (.esl 1) (.cons (.esl 2) (.cons (.same _) (.cons (.same _) (.cons (.esl 4) (.cons (.same _) (.cons (.same _) (.cons (.same _) .nil))))))))) .nil)
/-! Send -/
def rowC (o : Obj) (c : CC) : List CC := [.dat (.val (.int .i64 o.kind)), .dat (.sl 1 o.data), .dat (.sl 2 o.entries), .dat (.val (.string o.target)), .dat (.val (.int .i64 o.peer)), c, .dat (.val (.int .i64 o.proc)), .dat (.val (.int .i64 o.links)), .dat (.val (.int .i64 o.up))]
theorem rowsO_at {l : List Obj} {p Q : Nat} {q : Obj} (h : l[p]? = some q) : nth (rowsO p Q 0 l) p = some (rowC q (.row Q 4 0 none)) := by
  rw [nth_eq, rowsO_get, h]
  simp [rowO, rowC]
theorem qbO_at {l : List Obj} {p : Nat} {q : Obj} (h : l[p]? = some q) : qbO l p l.length = .row 4 (dRows (q.queue.map Msg.enc)) := by
  have hp := (List.getElem?_eq_some_iff.1 h).1
  have : Nat.blt p l.length = true := by rw [Nat.blt_eq]; exact hp
  simp only [qbO, this, quO, h]
/-- the row as data, when its queue is -/
theorem frzRows {m : Mem} {Z : Nat → Prop} {id p Q : Nat} {l : List Obj} {q : Obj} {c : CC} (hz : Z id) (hb : m[id]? = some (.row 9 (setN (rowsO p Q 0 l) p (rowC q c)))) (hc : FrzD m Z (some id) c (.sl 4 (q.queue.map Msg.enc))) :
    FrzD m Z none (.row id 9 0 none) (.sl 9 ((l.set p q).map Obj.enc)) := by
  have key : ∀ (i : Nat) cs es, (setN (rowsO p Q 0 l) p (rowC q c))[i]? = some cs → ((l.set p q).map Obj.enc)[i]? = some es → (cs = rowC q c ∧ es = q.enc) ∨ ∃ o : Obj, cs = o.enc.map .dat ∧ es = o.enc := by
    intro i cs es h1 h2
    rw [setN_eq, List.getElem?_set] at h1
    rw [List.getElem?_map, List.getElem?_set] at h2
    by_cases hi : p = i
    · subst hi
      rw [if_pos rfl] at h1 h2
      split at h1
      · cases h1
        split at h2
        · cases h2
          exact .inl ⟨rfl, rfl⟩
        · cases h2
      · cases h1
    · rw [if_neg hi] at h1 h2
      rw [rowsO_get] at h1
      cases ho : l[i]? with
      | none => rw [ho] at h1; cases h1
      | some o =>
        rw [ho] at h1 h2
        cases h1
        cases h2
        refine .inr ⟨o, ?_, rfl⟩
        simp only [rowO, Nat.zero_add, if_neg (Ne.symm hi)]
        rfl
  refine .row id 9 0 none _ ((l.set p q).map Obj.enc) hz hb (by rw [setN_eq]; simp [rowsO_len]) (fun i cs es h1 h2 => ?_) (fun i cs es j cc d h1 h2 h3 h4 => ?_)
  · rcases key i cs es h1 h2 with ⟨rfl, rfl⟩ | ⟨o, rfl, rfl⟩
    · rfl
    · simp
  · rcases key i cs es h1 h2 with ⟨rfl, rfl⟩ | ⟨o, rfl, rfl⟩
    · match j, h3, h4 with
      | 0, h3, h4 => cases h3; cases h4; exact .dat _
      | 1, h3, h4 => cases h3; cases h4; exact .dat _
      | 2, h3, h4 => cases h3; cases h4; exact .dat _
      | 3, h3, h4 => cases h3; cases h4; exact .dat _
      | 4, h3, h4 => cases h3; cases h4; exact .dat _
      | 5, h3, h4 => cases h3; cases h4; exact hc
      | 6, h3, h4 => cases h3; cases h4; exact .dat _
      | 7, h3, h4 => cases h3; cases h4; exact .dat _
      | 8, h3, h4 => cases h3; cases h4; exact .dat _
      | n + 9, h3, h4 => simp [rowC] at h3
    · rw [List.getElem?_map, h4] at h3
      cases h3
      exact .dat _
def sendS (l : List Obj) (e : Int) (m : Msg) : List Obj × Int :=
  if e < 0 ∨ e ≥ l.length then ([], 8) else match l[e.toNat]? with
  | none => ([], 8)
  | some o => if o.kind ≠ 4 then ([], 8) else if o.peer < 0 ∨ o.peer ≥ l.length then ([], 17) else match l[o.peer.toNat]? with
    | none => ([], 17)
    | some q => if q.kind ≠ 4 then ([], 17) else if m.data.length > 60 then ([], 4) else if q.queue.length ≥ 4 then ([], 15) else (l.set o.peer.toNat { q with queue := q.queue ++ [m] }, 0)
def twoV (l : List Obj) (e : Int) : CV := .tup [objsR l, iRV e]
theorem frz2 {m : Mem} {a b : RV} {x : Int} (h : FrzR m a b) : FrzV m (.tup [a, iRV x]) (.tup [b, iRV x]) := by
  refine .tup rfl fun i r r' h1 h2 => ?_
  match i, h1, h2 with
  | 0, h1, h2 => cases h1; cases h2; exact h
  | 1, h1, h2 => cases h1; cases h2; exact FrzR.self rfl
theorem vw2 {σ : Nat → Nat} {m : Mem} {Z : Nat → Prop} {a b : RV} {x : Int} (h : VwR σ m Z a b) : VwV σ m Z (.tup [a, iRV x]) (.tup [b, iRV x]) := by
  refine .tup rfl fun i r r' h1 h2 => ?_
  match i, h1, h2 with
  | 0, h1, h2 => cases h1; cases h2; exact h
  | 1, h1, h2 => cases h1; cases h2; exact .one (.ren (.dat _))
/-! Delete of the first, Recv -/
def zeroM : List CC := [.esl, .dat (.val (.bool false)), .dat (.val (.int .i64 0)), .dat (.val (.int .i64 0))]
theorem noOwnRows_dRows : ∀ ds : List (List Dt), noOwnRows (dRows ds) = true
  | [] => rfl
  | d :: r => by
    have h1 : ∀ e : List Dt, noOwnL (e.map CC.dat) = true := by
      intro e
      induction e with
      | nil => rfl
      | cons x e ih => simpa [noOwnL, CC.noOwn] using ih
    have := noOwnRows_dRows r
    simp only [dRows, List.map_cons, noOwnRows] at this ⊢
    rw [h1, this]
    rfl
def delRows (x : Msg) (r : List Msg) : List (List CC) := dRows (r.map Msg.enc) ++ [zeroM]
/-! Recv -/
def msgZ : Msg := ⟨[], false, 0, 0⟩
def Msg.rv (m : Msg) : RV := .agg (m.enc.map .dat)
def recvS (l : List Obj) (e : Int) : List Obj × Msg × Int :=
  if e < 0 ∨ e ≥ l.length then ([], msgZ, 8) else match l[e.toNat]? with
  | none => ([], msgZ, 8)
  | some o => if o.kind ≠ 4 then ([], msgZ, 8) else match o.queue with
    | [] => if o.peer < 0 ∨ o.peer ≥ l.length then ([], msgZ, 17) else match l[o.peer.toNat]? with
      | none => ([], msgZ, 17)
      | some q => if q.kind ≠ 4 then ([], msgZ, 17) else ([], msgZ, 16)
    | x :: r => (l.set e.toNat { o with queue := r }, x, 0)
def threeV (x : List Obj × Msg × Int) : CV := .tup [objsR x.1, x.2.1.rv, iRV x.2.2]
theorem vw3 {σ : Nat → Nat} {m : Mem} {Z : Nat → Prop} {a b c d : RV} {x : Int} (h : VwR σ m Z a b) (hc : VwR σ m Z c d) : VwV σ m Z (.tup [a, c, iRV x]) (.tup [b, d, iRV x]) := by
  refine .tup rfl fun i r r' h1 h2 => ?_
  match i, h1, h2 with
  | 0, h1, h2 => cases h1; cases h2; exact h
  | 1, h1, h2 => cases h1; cases h2; exact hc
  | 2, h1, h2 => cases h1; cases h2; exact .one (.ren (.dat _))
theorem vwZ {σ : Nat → Nat} {m : Mem} {Z : Nat → Prop} : VwR σ m Z (.agg zeroM) msgZ.rv := by
  refine .agg rfl fun i c c' h1 h2 => ?_
  match i, h1, h2 with
  | 0, h1, h2 => cases h1; cases h2; exact .frz (.esl 1)
  | 1, h1, h2 => cases h1; cases h2; exact .ren (.dat _)
  | 2, h1, h2 => cases h1; cases h2; exact .ren (.dat _)
  | 3, h1, h2 => cases h1; cases h2; exact .ren (.dat _)
  | n + 4, h1, h2 => simp [zeroM] at h1
theorem vwMsg {σ : Nat → Nat} {m : Mem} {Z : Nat → Prop} (x : Msg) : VwR σ m Z (.agg (x.enc.map .dat)) x.rv := by
  refine .agg rfl fun i c c' h1 h2 => ?_
  rw [h1] at h2
  cases h2
  rw [List.getElem?_map] at h1
  cases hd : x.enc[i]? with
  | none => rw [hd] at h1; cases h1
  | some d =>
    rw [hd] at h1
    cases h1
    exact .ren (.dat d)
theorem frzDel {m : Mem} {Z : Nat → Prop} {p : Option Nat} {id : Nat} {x : Msg} {r : List Msg} (hz : Z id) (hb : m[id]? = some (.row 4 (delRows x r))) : FrzD m Z p (.row id 4 0 (some r.length)) (.sl 4 (r.map Msg.enc)) := by
  have h := FrzD.row (m := m) (Z := Z) (p := p) id 4 0 (some r.length) (delRows x r) (r.map Msg.enc ++ [msgZ.enc]) hz hb (by simp [delRows, dRows]) (fun i cs es h1 h2 => ?_) (fun i cs es j c d h1 h2 h3 h4 => ?_)
  · have : subL (r.map Msg.enc ++ [msgZ.enc]) 0 (some r.length) = r.map Msg.enc := by
      rw [subL_eq]
      simp
    rw [this] at h
    exact h
  · rcases Nat.lt_or_ge i r.length with hi | hi
    · rw [delRows, List.getElem?_append_left (by simpa [dRows] using hi), dRows, List.getElem?_map] at h1
      rw [List.getElem?_append_left (by simpa using hi)] at h2
      rw [h2] at h1
      cases h1
      simp
    · rw [delRows, List.getElem?_append_right (by simpa [dRows] using hi)] at h1
      rw [List.getElem?_append_right (by simpa using hi)] at h2
      have e1 : (dRows (r.map Msg.enc)).length = r.length := by simp [dRows]
      have e2 : (r.map Msg.enc).length = r.length := by simp
      rw [e1] at h1
      rw [e2] at h2
      cases hn : i - r.length with
      | zero => rw [hn] at h1 h2; cases h1; cases h2; rfl
      | succ n => rw [hn] at h1; simp at h1
  · rcases Nat.lt_or_ge i r.length with hi | hi
    · rw [delRows, List.getElem?_append_left (by simpa [dRows] using hi), dRows, List.getElem?_map] at h1
      rw [List.getElem?_append_left (by simpa using hi)] at h2
      rw [h2] at h1
      cases h1
      rw [List.getElem?_map, h4] at h3
      cases h3
      exact .dat _
    · rw [delRows, List.getElem?_append_right (by simpa [dRows] using hi)] at h1
      rw [List.getElem?_append_right (by simpa using hi)] at h2
      have e1 : (dRows (r.map Msg.enc)).length = r.length := by simp [dRows]
      have e2 : (r.map Msg.enc).length = r.length := by simp
      rw [e1] at h1
      rw [e2] at h2
      cases hn : i - r.length with
      | zero =>
        rw [hn] at h1 h2
        cases h1
        cases h2
        match j, h3, h4 with
        | 0, h3, h4 => cases h3; cases h4; exact .esl 1
        | 1, h3, h4 => cases h3; cases h4; exact .dat _
        | 2, h3, h4 => cases h3; cases h4; exact .dat _
        | 3, h3, h4 => cases h3; cases h4; exact .dat _
        | n + 4, h3, h4 => simp [zeroM] at h3
      | succ n => rw [hn] at h1; simp at h1

end Go.Proofs.Ytecmaolfellofaa
