import Derived.Test.YtflieebgiejjpaaAmZ2
import Derived.Test.YtflieebgiejjpaaDvCh0
import Derived.Test.YtflieebgiejjpaaAmY
set_option linter.unusedVariables false
set_option linter.unusedSimpArgs false
namespace Go.Proofs.Ytflieebgiejjpaa
open Go.AM Go.ChangeShapes Go.WideShapes Go.ChangeAt Go.RowKit
def c93 : LF := ⟨47, [.tmp 2], (.seq (.reg [
    ⟨(some 2), .mov (.c (.rv (.one .esl))), none⟩]) (.seq (.reg [
    ⟨(some 3), .mov (.c (.rv (.one .esl))), none⟩]) (.seq (.seq (.reg [
    ⟨(some 9), .mov (.t 0), none⟩,
    ⟨(some 10), .len 1 (.t 9), none⟩,
    ⟨(some 11), .mov (.c (.rv (.one (.dat (.val (.int .i64 (0))))))), none⟩]) (.block 0 (.loop (.seq (.reg [
    ⟨(some 12), .bin .lss (.t 11) (.t 10), none⟩]) (.seq (.cond (.t 12) .skip (.exit 0)) (.seq (.block 1 (.seq (.reg [
    ⟨(some 13), .idx 9 (.t 9) (.t 11), none⟩,
    ⟨(some 14), .load true 9 (.t 13), none⟩,
    ⟨(some 5), .alloc [(.dat (.val (.int .i64 (0)))), .esl, .esl, (.dat (.val (.string ⟨#[]⟩))), (.dat (.val (.int .i64 (0)))), .esl, (.dat (.val (.int .i64 (0)))), (.dat (.val (.int .i64 (0)))), (.dat (.val (.int .i64 (0))))], none⟩,
    ⟨none, .store 9 (.t 5) (.t 14), none⟩]) (.seq (.draw [
    ⟨(some 15), .fadr 1 (.t 5), none⟩,
    ⟨(some 16), .load false 1 (.t 15), none⟩,
    ⟨(some 17), .call (.c (.rv (.one (.fn 94 [])))) [(.t 16)], none⟩,
    ⟨(some 18), .fadr 2 (.t 5), none⟩,
    ⟨(some 19), .load false 1 (.t 18), none⟩,
    ⟨(some 20), .call (.c (.rv (.one (.fn 113 [])))) [(.t 19)], none⟩,
    ⟨(some 21), .fadr 1 (.t 5), none⟩,
    ⟨none, .store 1 (.t 21) (.t 17), none⟩,
    ⟨(some 22), .fadr 2 (.t 5), none⟩,
    ⟨none, .store 1 (.t 22) (.t 20), none⟩]
    [(.cons 0 none (.cons 1 none (.cons 3 none (.cons 4 none (.cons 2 (some [4]) (.cons 6 none (.cons 5 (some []) (.cons 7 (some []) (.cons 8 none (.cons 9 (some []) .nil))))))))))]) (.seq (.reg [
    ⟨(some 6), .mov (.c (.rv (.one .esl))), none⟩]) (.seq (.seq (.reg [
    ⟨(some 23), .fadr 5 (.t 5), none⟩,
    ⟨(some 24), .load false 1 (.t 23), none⟩,
    ⟨(some 25), .len 1 (.t 24), none⟩,
    ⟨(some 26), .mov (.c (.rv (.one (.dat (.val (.int .i64 (0))))))), none⟩]) (.block 2 (.loop (.seq (.reg [
    ⟨(some 27), .bin .lss (.t 26) (.t 25), none⟩]) (.seq (.cond (.t 27) .skip (.exit 2)) (.seq (.block 3 (.seq (.reg [
    ⟨(some 28), .idx 4 (.t 24) (.t 26), none⟩,
    ⟨(some 29), .load true 4 (.t 28), none⟩,
    ⟨(some 8), .alloc [.esl, (.dat (.val (.bool false))), (.dat (.val (.int .i64 (0)))), (.dat (.val (.int .i64 (0))))], none⟩,
    ⟨none, .store 4 (.t 8) (.t 29), none⟩]) (.seq (.reg [
    ⟨(some 30), .fadr 0 (.t 8), none⟩,
    ⟨(some 31), .load false 1 (.t 30), none⟩,
    ⟨(some 32), .call (.c (.rv (.one (.fn 94 [])))) [(.t 31)], none⟩,
    ⟨(some 33), .fadr 0 (.t 8), none⟩,
    ⟨none, .store 1 (.t 33) (.t 32), none⟩]) (.reg [
    ⟨(some 34), .mov (.t 6), none⟩,
    ⟨(some 35), .load true 4 (.t 8), none⟩,
    ⟨(some 36), .bsl 4 [.esl, (.dat (.val (.bool false))), (.dat (.val (.int .i64 (0)))), (.dat (.val (.int .i64 (0))))] 1 [(0, (.t 35))], none⟩,
    ⟨(some 37), .app 4 48 (.t 34) (.t 36), none⟩,
    ⟨(some 6), .mov (.t 37), none⟩])))) (.reg [
    ⟨(some 38), .bin .add (.t 26) (.c (.rv (.one (.dat (.val (.int .i64 (1))))))), none⟩,
    ⟨(some 26), .mov (.t 38), none⟩]))))))) (.seq (.reg [
    ⟨(some 39), .mov (.t 6), none⟩,
    ⟨(some 40), .fadr 5 (.t 5), none⟩,
    ⟨none, .store 1 (.t 40) (.t 39), none⟩]) (.reg [
    ⟨(some 41), .mov (.t 3), none⟩,
    ⟨(some 42), .load true 9 (.t 5), none⟩,
    ⟨(some 43), .bsl 9 [(.dat (.val (.int .i64 (0)))), .esl, .esl, (.dat (.val (.string ⟨#[]⟩))), (.dat (.val (.int .i64 (0)))), .esl, (.dat (.val (.int .i64 (0)))), (.dat (.val (.int .i64 (0)))), (.dat (.val (.int .i64 (0))))] 1 [(0, (.t 42))], none⟩,
    ⟨(some 44), .app 9 128 (.t 41) (.t 43), none⟩,
    ⟨(some 3), .mov (.t 44), none⟩]))))))) (.reg [
    ⟨(some 45), .bin .add (.t 11) (.c (.rv (.one (.dat (.val (.int .i64 (1))))))), none⟩,
    ⟨(some 11), .mov (.t 45), none⟩]))))))) (.seq (.reg [
    ⟨(some 46), .mov (.t 3), none⟩,
    ⟨(some 2), .mov (.t 46), none⟩]) .ret))))⟩
/-! Own -/
def quO (l : List Obj) (p : Nat) : List Msg := match l[p]? with | some o => o.queue | none => []
def qbO (l : List Obj) (p k : Nat) : Bk := match Nat.blt p k with | true => .row 4 (dRows ((quO l p).map Msg.enc)) | false => .dead
theorem qbO_ren {σ : Nat → Nat} (l : List Obj) (p k : Nat) : (qbO l p k).ren σ = qbO l p k := by
  unfold qbO
  split
  · exact Bk.ren_dRows _ _
  · rfl
theorem takeO {α : Type} {l : List α} {i : Nat} {s : α} (h : l[i]? = some s) : l.take (i + 1) = l.take i ++ [s] := by
  rw [List.take_add_one, h]; rfl
theorem dRows_append (a b : List (List Dt)) : dRows (a ++ b) = dRows a ++ dRows b := by simp [dRows]
theorem rowsO_take {p Q : Nat} {l : List Obj} {k : Nat} {o : Obj} (h : l[k]? = some o) : rowsO p Q 0 (l.take (k + 1)) = rowsO p Q 0 (l.take k) ++ [rowO p Q k o] := by
  have hk := (List.getElem?_eq_some_iff.1 h).1
  rw [takeO h, rowsO_append, List.length_take, Nat.min_eq_left (by omega), Nat.zero_add]
  rfl
theorem l93 : lowF Try.prog Try.f93 = some c93 := by kernel_rfl
set_option maxRecDepth 100000 in
set_option maxHeartbeats 8000000 in
theorem own_body (l : List Obj) (hf : fitL l) (p : Nat) : body Try.prog c93 [objsV l] [] (fun r m => r = .rv (.one (.row 0 9 0 none)) ∧ m = [.row 9 (rowsO p 1 0 l), qbO l p l.length]) := by
  obtain ⟨hl, hfo⟩ := hf
  refine loop_keep (fun k => k ≤ l.length) [0, 9, 10] (fun k => [(11, vInt .i64 (k : Nat)), (3, .rv (.one (.row 0 9 0 none)))]) (fun k => [.row 9 (rowsO p 1 0 (l.take k)), qbO l p k]) (fun k => l.length - k) 0 (Nat.zero_le _) ?_ (fun k hk => ?_)
  · refine View.trans (View.esl 2 4 0 rfl rfl rfl) (View.trans (View.esl 3 9 1 rfl rfl rfl) (View.of 2 [1, 0] [] rfl rfl rfl rfl rfl rfl ?_ ?_))
    · repeat (first | exact .nil | refine .junk ?_ | refine .eq rfl ?_)
    · exact .put (by simp [memN]) rfl (.eq rfl (by simp)) (.dead (.nil _))
  · refine bB_dec (fun h => ?_) (fun h => ?_)
    · have hlt : k < l.length := by
        have h : (k : Int) < ((l.map Obj.enc).length : Int) := h
        rw [List.length_map] at h
        omega
      have hi := List.getElem?_eq_getElem hlt
      have hof := hfo _ (List.getElem_mem hlt)
      have hg : getZ (l.map Obj.enc) (k : Nat) = some (l[k].enc) := by
        rw [getZ_nat, List.getElem?_map, List.getElem?_eq_getElem hlt]; rfl
      generalize l[k] = o at hi hof hg
      obtain ⟨kind, data, entries, target, peer, queue, proc, links, up⟩ := o
      obtain ⟨hf1, hf2, hf3, hf4⟩ := hof
      have hf1 : data.length ≤ 4194304 := hf1
      have hf2 : entries.length ≤ 4194304 := hf2
      have hf3 : queue.length ≤ 4194304 := hf3
      have hf4 : ∀ q, q ∈ queue → q.data.length ≤ 4194304 := hf4
      have hg : getZ (l.map Obj.enc) (k : Nat) = some [.val (.int .i64 kind), .sl 1 data, .sl 2 entries, .val (.string target), .val (.int .i64 peer), .sl 4 (queue.map Msg.enc), .val (.int .i64 proc), .val (.int .i64 links), .val (.int .i64 up)] := hg
      refine ok_some hg ?_
      refine bclone_ok data hf1 ?_
      refine ⟨⟨rfl, trivial⟩, ?_⟩
      refine eclone_ok entries hf2 ?_
      refine ⟨trivial, ?_⟩
      refine ⟨trivial, ?_⟩
      refine ⟨trivial, ?_⟩
      refine loop_keep (fun j => j ≤ queue.length) [0, 3, 5, 9, 10, 11, 24, 25] (fun j => [(26, vInt .i64 (j : Nat)), (6, .rv (.one (.row 3 4 0 none)))])
        (fun j => [.row 9 (rowsO p 1 0 (l.take k)), qbO l p k, .var ((⟨kind, data, entries, target, peer, queue, proc, links, up⟩ : Obj).enc.map .dat), .row 4 (dRows ((queue.take j).map Msg.enc))]) (fun j => queue.length - j) 0 (Nat.zero_le _) ?_ (fun j hj => ?_)
      · refine View.trans (View.esl 6 4 3 rfl rfl rfl) (View.of 4 [0, 1, 2, 3] [] rfl rfl rfl rfl rfl rfl ?_ ?_)
        · repeat (first | exact .nil | refine .junk ?_ | refine .eq rfl ?_)
        · exact .put (notF rfl) rfl (.eq (congrArg (Bk.row 9) (rowsO_ren p 1 _ _)) (by simp)) (.keepB (notF rfl) rfl (qbO_ren l p k) (.put (notF rfl) rfl (.eq rfl (by simp)) (.put (notF rfl) rfl (.rowDE rfl) (.nil _))))
      · have hj : j ≤ queue.length := hj
        refine bB_dec (fun h => ?_) (fun h => ?_)
        · have hjlt : j < queue.length := by
            have h : (j : Int) < ((queue.map Msg.enc).length : Int) := h
            rw [List.length_map] at h
            omega
          have hqi := List.getElem?_eq_getElem hjlt
          have hqf := hf4 _ (List.getElem_mem hjlt)
          generalize queue[j] = q at hqi hqf
          obtain ⟨qd, qh, qo, qr⟩ := q
          have hg2 : getZ (queue.map Msg.enc) (j : Nat) = some [.sl 1 qd, .val (.bool qh), .val (.int .i64 qo), .val (.int .i64 qr)] := by
            rw [getZ_nat, List.getElem?_map, hqi]; rfl
          refine ok_some hg2 ?_
          refine bclone_ok qd hqf ?_
          refine ⟨?_, ?_⟩
          · show ((dRows ((queue.take j).map Msg.enc)).length + 1) * 48 ≤ _
            simp [dRows]; omega
          refine ⟨j + 1, hjlt, (show queue.length - (j + 1) < queue.length - j by omega), View.of 7 [0, 1, 2, 6] [] rfl rfl rfl rfl rfl rfl ?_ ?_⟩
          · repeat (first | exact .nil | refine .junk ?_ | refine .put (.ren (next_i64 (by omega)).symm) ?_ | refine .eq rfl ?_)
          · refine .put (notF rfl) rfl (.eq (congrArg (Bk.row 9) (rowsO_ren p 1 _ _)) (by simp)) (.keepB (notF rfl) rfl (qbO_ren l p k) (.put (notF rfl) rfl (.eq rfl (by simp)) (.put (notF rfl) rfl (.rowDE ?_) (.nil _))))
            rw [takeO hqi, List.map_append, dRows_append]
            rfl
        · have hge : ¬ (j : Int) < ((queue.map Msg.enc).length : Int) := h
          rw [List.length_map] at hge
          have hq : queue.take j = queue := List.take_of_length_le (by omega)
          refine ⟨?_, ?_⟩
          · show ((rowsO p 1 0 (l.take k)).length + 1) * 128 ≤ _
            rw [rowsO_len]; simp; omega
          by_cases hkp : k = p
          · subst hkp
            have hR : ∀ Q, rowsO k Q 0 (l.take k) = dRows ((l.take k).map Obj.enc) := fun Q => rowsO_none k Q _ 0 (.inr (by simp; omega))
            have hqb : qbO l k (k + 1) = .row 4 (dRows ((queue.take j).map Msg.enc)) := by
              have : Nat.blt k (k + 1) = true := by rw [Nat.blt_eq]; omega
              simp only [qbO, this, quO, hi, hq]
            refine ⟨k + 1, hlt, (show l.length - (k + 1) < l.length - k by omega), View.of 6 [5, 3] [] rfl rfl rfl rfl rfl rfl ?_ ?_⟩
            · repeat (first | exact .nil | refine .junk ?_ | refine .put (.ren (next_i64 (by omega)).symm) ?_ | refine .eq rfl ?_)
            · rw [rowsO_take hi, hqb]
              refine .put (notF rfl) rfl (.snoc ?_ rfl ?_) (.put (notF rfl) rfl (.rowDE rfl) (.nil _))
              · rw [rowsO_ren, hR, hR]; rfl
              · intro j c c' h1 h2
                have e5 : rowO k 1 k ⟨kind, data, entries, target, peer, queue, proc, links, up⟩ = [.dat (.val (.int .i64 kind)), .dat (.sl 1 data), .dat (.sl 2 entries), .dat (.val (.string target)), .dat (.val (.int .i64 peer)), .row 1 4 0 none, .dat (.val (.int .i64 proc)), .dat (.val (.int .i64 links)), .dat (.val (.int .i64 up))] := by
                  simp [rowO]
                rw [e5] at h2
                match j, h1, h2 with
                | 0, h1, h2 => cases h1; cases h2; exact .ren (.dat _)
                | 1, h1, h2 => cases h1; cases h2; exact .ren (.dat _)
                | 2, h1, h2 => cases h1; cases h2; exact .ren (.dat _)
                | 3, h1, h2 => cases h1; cases h2; exact .ren (.dat _)
                | 4, h1, h2 => cases h1; cases h2; exact .ren (.dat _)
                | 5, h1, h2 => cases h1; cases h2; exact .ren (.row 1 4 0 none)
                | 6, h1, h2 => cases h1; cases h2; exact .ren (.dat _)
                | 7, h1, h2 => cases h1; cases h2; exact .ren (.dat _)
                | 8, h1, h2 => cases h1; cases h2; exact .ren (.dat _)
                | n + 9, h1, h2 => simp at h1
          · have hqb : qbO l p (k + 1) = qbO l p k := by
              have : Nat.blt p (k + 1) = Nat.blt p k := by
                rw [Bool.eq_iff_iff, Nat.blt_eq, Nat.blt_eq]; omega
              simp only [qbO, this]
            refine ⟨k + 1, hlt, (show l.length - (k + 1) < l.length - k by omega), View.of 6 [5, 1] [3] rfl rfl rfl rfl rfl rfl ?_ ?_⟩
            · repeat (first | exact .nil | refine .junk ?_ | refine .put (.ren (next_i64 (by omega)).symm) ?_ | refine .eq rfl ?_)
            · rw [rowsO_take hi, hqb]
              refine .put (notF rfl) rfl (.snoc (rowsO_ren p 1 _ _) rfl ?_) (.keepB (notF rfl) rfl (qbO_ren l p k) (.nil _))
              intro j' c c' h1 h2
              have e5 : rowO p 1 k ⟨kind, data, entries, target, peer, queue, proc, links, up⟩ = [.dat (.val (.int .i64 kind)), .dat (.sl 1 data), .dat (.sl 2 entries), .dat (.val (.string target)), .dat (.val (.int .i64 peer)), .dat (.sl 4 ((queue.take j).map Msg.enc)), .dat (.val (.int .i64 proc)), .dat (.val (.int .i64 links)), .dat (.val (.int .i64 up))] := by
                simp [rowO, hkp, hq]
              rw [e5] at h2
              match j', h1, h2 with
              | 0, h1, h2 => cases h1; cases h2; exact .ren (.dat _)
              | 1, h1, h2 => cases h1; cases h2; exact .ren (.dat _)
              | 2, h1, h2 => cases h1; cases h2; exact .ren (.dat _)
              | 3, h1, h2 => cases h1; cases h2; exact .ren (.dat _)
              | 4, h1, h2 => cases h1; cases h2; exact .ren (.dat _)
              | 5, h1, h2 => cases h1; cases h2; exact .frz (FrzD.rowD (Z := fun k => memN [3] k = true) rfl (by rw [← nth_eq]; rfl) 0 none)
              | 6, h1, h2 => cases h1; cases h2; exact .ren (.dat _)
              | 7, h1, h2 => cases h1; cases h2; exact .ren (.dat _)
              | 8, h1, h2 => cases h1; cases h2; exact .ren (.dat _)
              | n + 9, h1, h2 => simp at h1
    · have hge : ¬ (k : Int) < ((l.map Obj.enc).length : Int) := h
      rw [List.length_map] at hge
      have hkl : k = l.length := by
        have : k ≤ l.length := hk
        omega
      subst hkl
      rw [List.take_length]
      exact ⟨rfl, rfl⟩
set_option maxRecDepth 100000 in
theorem own_ok (l : List Obj) (hf : fitL l) (p : Nat) {m : Mem} {K : CV → Mem → Prop} (h : K (.rv (.one (.row m.length 9 0 none))) (m ++ [.row 9 (rowsO p (m.length + 1) 0 l), qbO l p l.length])) : ACall Try.prog 93 [objsV l] m K := by
  refine acall_borrow [] m.length rfl rfl rfl rfl rfl (fun i b' hi => by simp at hi) (acall_body Try.func93 l93 rfl (Nat.le_of_ble_eq_true rfl) (own_body l hf p)) (fun r m1 hr => ?_)
  obtain ⟨h1, h2⟩ := hr
  subst h1
  subst h2
  refine ⟨Nat.zero_le _, ?_⟩
  show K (.rv (.one (.row (m.length + (0 - 0)) 9 0 none))) (app2 m [.row 9 ((rowsO p 1 0 l).map (fun cs => cs.map (CC.ren (sg [] m.length)))), (qbO l p l.length).ren (sg [] m.length)])
  rw [rowsO_ren, qbO_ren, app2_eq]
  exact h
end Go.Proofs.Ytflieebgiejjpaa
