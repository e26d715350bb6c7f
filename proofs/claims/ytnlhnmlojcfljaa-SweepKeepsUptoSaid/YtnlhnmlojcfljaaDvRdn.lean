import Derived.Test.YtnlhnmlojcfljaaAmZ2
import Derived.Test.YtnlhnmlojcfljaaDvRdm
import Derived.Test.YtnlhnmlojcfljaaAmY
set_option linter.unusedVariables false
set_option linter.unusedSimpArgs false
namespace Go.Proofs.Ytnlhnmlojcfljaa
open Go.AM Go.ChangeShapes Go.WideShapes Go.ChangeAt Go.RowKit
def c22 : LF := ⟨123, [.tmp 8, .tmp 9], (.seq (.reg [
    ⟨(some 8), .mov (.c (.rv (.one .esl))), none⟩,
    ⟨(some 9), .mov (.c (.rv (.one (.dat (.val (.int .i64 (0))))))), none⟩]) (.seq (.seq (.reg [
    ⟨(some 15), .mov (.t 0), none⟩,
    ⟨(some 16), .mov (.t 1), none⟩,
    ⟨(some 17), .call (.c (.rv (.one (.fn 28 [])))) [(.t 15), (.t 16), (.c (.rv (.one (.dat (.val (.int .i64 (0)))))))], none⟩,
    ⟨(some 18), .un .not (.t 17), none⟩,
    ⟨(some 19), .mov (.t 18), none⟩,
    ⟨(some 20), .mov (.t 0), (some (19, false))⟩,
    ⟨(some 21), .mov (.t 3), (some (19, false))⟩,
    ⟨(some 22), .call (.c (.rv (.one (.fn 28 [])))) [(.t 20), (.t 21), (.c (.rv (.one (.dat (.val (.int .i64 (0)))))))], (some (19, false))⟩,
    ⟨(some 23), .un .not (.t 22), (some (19, false))⟩,
    ⟨(some 24), .pick (.t 19) (.c (.rv (.one (.dat (.val (.bool true)))))) (.t 23), none⟩]) (.cond (.t 24) (.seq (.reg [
    ⟨(some 8), .mov (.c (.rv (.one .esl))), none⟩,
    ⟨(some 9), .mov (.c (.rv (.one (.dat (.val (.int .i64 (6))))))), none⟩]) .ret) .skip)) (.seq (.seq (.reg [
    ⟨(some 25), .mov (.t 0), none⟩,
    ⟨(some 26), .mov (.t 1), none⟩,
    ⟨(some 27), .idx 9 (.t 25) (.t 26), none⟩,
    ⟨(some 28), .fadr 0 (.t 27), none⟩,
    ⟨(some 29), .load false 1 (.t 28), none⟩,
    ⟨(some 30), .bin .neq (.t 29) (.c (.rv (.one (.dat (.val (.int .i64 (2))))))), none⟩]) (.cond (.t 30) (.seq (.reg [
    ⟨(some 8), .mov (.c (.rv (.one .esl))), none⟩,
    ⟨(some 9), .mov (.c (.rv (.one (.dat (.val (.int .i64 (11))))))), none⟩]) .ret) .skip)) (.seq (.seq (.reg [
    ⟨(some 31), .mov (.t 0), none⟩,
    ⟨(some 32), .mov (.t 1), none⟩,
    ⟨(some 33), .idx 9 (.t 31) (.t 32), none⟩,
    ⟨(some 34), .fadr 7 (.t 33), none⟩,
    ⟨(some 35), .load false 1 (.t 34), none⟩,
    ⟨(some 36), .bin .eql (.t 35) (.c (.rv (.one (.dat (.val (.int .i64 (0))))))), none⟩]) (.cond (.t 36) (.seq (.reg [
    ⟨(some 8), .mov (.c (.rv (.one .esl))), none⟩,
    ⟨(some 9), .mov (.c (.rv (.one (.dat (.val (.int .i64 (6))))))), none⟩]) .ret) .skip)) (.seq (.seq (.reg [
    ⟨(some 37), .mov (.t 2), none⟩,
    ⟨(some 38), .call (.c (.rv (.one (.fn 36 [])))) [(.t 37)], none⟩,
    ⟨(some 39), .un .not (.t 38), none⟩,
    ⟨(some 40), .mov (.t 39), none⟩,
    ⟨(some 41), .mov (.t 0), (some (40, false))⟩,
    ⟨(some 42), .mov (.t 1), (some (40, false))⟩,
    ⟨(some 43), .mov (.t 2), (some (40, false))⟩,
    ⟨(some 44), .call (.c (.rv (.one (.fn 37 [])))) [(.t 41), (.t 42), (.t 43)], (some (40, false))⟩,
    ⟨(some 45), .bin .geq (.t 44) (.c (.rv (.one (.dat (.val (.int .i64 (0))))))), (some (40, false))⟩,
    ⟨(some 46), .pick (.t 40) (.c (.rv (.one (.dat (.val (.bool true)))))) (.t 45), none⟩]) (.cond (.t 46) (.seq (.reg [
    ⟨(some 8), .mov (.c (.rv (.one .esl))), none⟩,
    ⟨(some 9), .mov (.c (.rv (.one (.dat (.val (.int .i64 (7))))))), none⟩]) .ret) .skip)) (.seq (.seq (.reg [
    ⟨(some 47), .mov (.t 0), none⟩,
    ⟨(some 48), .mov (.t 1), none⟩,
    ⟨(some 49), .idx 9 (.t 47) (.t 48), none⟩,
    ⟨(some 50), .fadr 2 (.t 49), none⟩,
    ⟨(some 51), .load false 1 (.t 50), none⟩,
    ⟨(some 52), .len 1 (.t 51), none⟩,
    ⟨(some 53), .bin .geq (.t 52) (.c (.rv (.one (.dat (.val (.int .i64 (8))))))), none⟩]) (.cond (.t 53) (.seq (.reg [
    ⟨(some 8), .mov (.c (.rv (.one .esl))), none⟩,
    ⟨(some 9), .mov (.c (.rv (.one (.dat (.val (.int .i64 (15))))))), none⟩]) .ret) .skip)) (.seq (.reg [
    ⟨(some 54), .mov (.t 0), none⟩,
    ⟨(some 55), .mov (.t 1), none⟩,
    ⟨(some 56), .idx 9 (.t 54) (.t 55), none⟩,
    ⟨(some 57), .load true 9 (.t 56), none⟩,
    ⟨(some 10), .alloc [(.dat (.val (.int .i64 (0)))), .esl, .esl, (.dat (.val (.string ⟨#[]⟩))), (.dat (.val (.int .i64 (0)))), .esl, (.dat (.val (.int .i64 (0)))), (.dat (.val (.int .i64 (0)))), (.dat (.val (.int .i64 (0))))], none⟩,
    ⟨none, .store 9 (.t 10) (.t 57), none⟩]) (.seq (.reg [
    ⟨(some 58), .fadr 2 (.t 10), none⟩,
    ⟨none, .store 1 (.t 58) (.c (.rv (.one .esl))), none⟩]) (.seq (.reg [
    ⟨(some 11), .mov (.c (.rv (.one (.dat (.val (.bool false)))))), none⟩]) (.seq (.seq (.reg [
    ⟨(some 59), .mov (.t 0), none⟩,
    ⟨(some 60), .mov (.t 1), none⟩,
    ⟨(some 61), .idx 9 (.t 59) (.t 60), none⟩,
    ⟨(some 62), .fadr 2 (.t 61), none⟩,
    ⟨(some 63), .load false 1 (.t 62), none⟩,
    ⟨(some 64), .len 1 (.t 63), none⟩,
    ⟨(some 65), .mov (.c (.rv (.one (.dat (.val (.int .i64 (0))))))), none⟩]) (.block 0 (.loop (.seq (.reg [
    ⟨(some 66), .bin .lss (.t 65) (.t 64), none⟩]) (.seq (.cond (.t 66) .skip (.exit 0)) (.seq (.block 1 (.seq (.reg [
    ⟨(some 67), .idx 2 (.t 63) (.t 65), none⟩,
    ⟨(some 68), .load true 2 (.t 67), none⟩,
    ⟨(some 13), .alloc [(.dat (.val (.string ⟨#[]⟩))), (.dat (.val (.int .i64 (0))))], none⟩,
    ⟨none, .store 2 (.t 13) (.t 68), none⟩]) (.seq (.seq (.reg [
    ⟨(some 69), .mov (.t 11), none⟩,
    ⟨(some 70), .un .not (.t 69), none⟩,
    ⟨(some 71), .mov (.t 70), none⟩,
    ⟨(some 72), .fadr 0 (.t 13), (some (71, true))⟩,
    ⟨(some 73), .load false 1 (.t 72), (some (71, true))⟩,
    ⟨(some 74), .mov (.t 2), (some (71, true))⟩,
    ⟨(some 75), .bin .gtr (.t 73) (.t 74), (some (71, true))⟩,
    ⟨(some 76), .pick (.t 71) (.t 75) (.c (.rv (.one (.dat (.val (.bool false)))))), none⟩]) (.cond (.t 76) (.seq (.reg [
    ⟨(some 77), .fadr 2 (.t 10), none⟩,
    ⟨(some 78), .load false 1 (.t 77), none⟩,
    ⟨(some 79), .mov (.t 2), none⟩,
    ⟨(some 80), .mov (.t 3), none⟩,
    ⟨(some 81), .build [(.dat (.val (.string ⟨#[]⟩))), (.dat (.val (.int .i64 (0))))] [(0, 1, (.t 79)), (1, 1, (.t 80))], none⟩,
    ⟨(some 82), .bsl 2 [(.dat (.val (.string ⟨#[]⟩))), (.dat (.val (.int .i64 (0))))] 1 [(0, (.t 81))], none⟩,
    ⟨(some 83), .app 2 24 (.t 78) (.t 82), none⟩,
    ⟨(some 84), .fadr 2 (.t 10), none⟩,
    ⟨none, .store 1 (.t 84) (.t 83), none⟩]) (.reg [
    ⟨(some 11), .mov (.c (.rv (.one (.dat (.val (.bool true)))))), none⟩])) .skip)) (.reg [
    ⟨(some 85), .fadr 2 (.t 10), none⟩,
    ⟨(some 86), .load false 1 (.t 85), none⟩,
    ⟨(some 87), .load true 2 (.t 13), none⟩,
    ⟨(some 88), .bsl 2 [(.dat (.val (.string ⟨#[]⟩))), (.dat (.val (.int .i64 (0))))] 1 [(0, (.t 87))], none⟩,
    ⟨(some 89), .app 2 24 (.t 86) (.t 88), none⟩,
    ⟨(some 90), .fadr 2 (.t 10), none⟩,
    ⟨none, .store 1 (.t 90) (.t 89), none⟩])))) (.reg [
    ⟨(some 91), .bin .add (.t 65) (.c (.rv (.one (.dat (.val (.int .i64 (1))))))), none⟩,
    ⟨(some 65), .mov (.t 91), none⟩]))))))) (.seq (.seq (.reg [
    ⟨(some 92), .mov (.t 11), none⟩,
    ⟨(some 93), .un .not (.t 92), none⟩]) (.cond (.t 93) (.reg [
    ⟨(some 94), .fadr 2 (.t 10), none⟩,
    ⟨(some 95), .load false 1 (.t 94), none⟩,
    ⟨(some 96), .mov (.t 2), none⟩,
    ⟨(some 97), .mov (.t 3), none⟩,
    ⟨(some 98), .build [(.dat (.val (.string ⟨#[]⟩))), (.dat (.val (.int .i64 (0))))] [(0, 1, (.t 96)), (1, 1, (.t 97))], none⟩,
    ⟨(some 99), .bsl 2 [(.dat (.val (.string ⟨#[]⟩))), (.dat (.val (.int .i64 (0))))] 1 [(0, (.t 98))], none⟩,
    ⟨(some 100), .app 2 24 (.t 95) (.t 99), none⟩,
    ⟨(some 101), .fadr 2 (.t 10), none⟩,
    ⟨none, .store 1 (.t 101) (.t 100), none⟩]) .skip)) (.seq (.reg [
    ⟨(some 102), .mov (.t 0), none⟩,
    ⟨(some 103), .mov (.t 1), none⟩,
    ⟨(some 104), .load true 9 (.t 10), none⟩,
    ⟨(some 105), .call (.c (.rv (.one (.fn 23 [])))) [(.t 102), (.t 103), (.t 104)], none⟩,
    ⟨(some 0), .mov (.t 105), none⟩]) (.seq (.reg [
    ⟨(some 106), .mov (.t 0), none⟩,
    ⟨(some 107), .mov (.t 3), none⟩,
    ⟨(some 108), .idx 9 (.t 106) (.t 107), none⟩,
    ⟨(some 109), .load true 9 (.t 108), none⟩,
    ⟨(some 14), .alloc [(.dat (.val (.int .i64 (0)))), .esl, .esl, (.dat (.val (.string ⟨#[]⟩))), (.dat (.val (.int .i64 (0)))), .esl, (.dat (.val (.int .i64 (0)))), (.dat (.val (.int .i64 (0)))), (.dat (.val (.int .i64 (0))))], none⟩,
    ⟨none, .store 9 (.t 14) (.t 109), none⟩]) (.seq (.reg [
    ⟨(some 110), .fadr 7 (.t 14), none⟩,
    ⟨(some 111), .load false 1 (.t 110), none⟩,
    ⟨(some 112), .bin .add (.t 111) (.c (.rv (.one (.dat (.val (.int .i64 (1))))))), none⟩,
    ⟨(some 113), .fadr 7 (.t 14), none⟩,
    ⟨none, .store 1 (.t 113) (.t 112), none⟩]) (.seq (.seq (.reg [
    ⟨(some 114), .fadr 0 (.t 14), none⟩,
    ⟨(some 115), .load false 1 (.t 114), none⟩,
    ⟨(some 116), .bin .eql (.t 115) (.c (.rv (.one (.dat (.val (.int .i64 (2))))))), none⟩]) (.cond (.t 116) (.reg [
    ⟨(some 117), .mov (.t 1), none⟩,
    ⟨(some 118), .fadr 8 (.t 14), none⟩,
    ⟨none, .store 1 (.t 118) (.t 117), none⟩]) .skip)) (.seq (.reg [
    ⟨(some 119), .mov (.t 0), none⟩,
    ⟨(some 120), .mov (.t 3), none⟩,
    ⟨(some 121), .load true 9 (.t 14), none⟩,
    ⟨(some 122), .call (.c (.rv (.one (.fn 23 [])))) [(.t 119), (.t 120), (.t 121)], none⟩,
    ⟨(some 8), .mov (.t 122), none⟩,
    ⟨(some 9), .mov (.c (.rv (.one (.dat (.val (.int .i64 (0))))))), none⟩]) .ret))))))))))))))))⟩
/-! Enter of the document: what it says fits -/
theorem frzE {m : Mem} {Z : Nat → Prop} {p : Option Nat} {id : Nat} {X : List (List CC)} {es : List (ByteArray × Int)} (hz : Z id) (h : m[id]? = some (.row 2 X)) (hX : X = dRows (es.map entD)) : FrzD m Z p (.row id 2 0 none) (.sl 2 (es.map entD)) := by
  subst hX
  exact FrzD.rowD hz h 0 none
structure EntSt where
  k : Nat
  d : Bool
  acc : List (ByteArray × Int)
theorem with_good {l1 : List Obj} (g : GoodL l1) {p : Nat} (hp1 : p < l1.length) (lk u : Int) : GoodL (withS l1 p { l1[p] with links := lk, up := u }) ∧ (withS l1 p { l1[p] with links := lk, up := u }).length = l1.length := by
  have hw : withS l1 p { l1[p] with links := lk, up := u } = l1.set p { l1[p] with links := lk, up := u } := by
    rw [withS, if_neg (by omega)]; simp
  have hs := g.sm _ (List.getElem_mem hp1)
  rw [hw]
  exact ⟨g.set ⟨⟨hs.t.1, hs.t.2.1, hs.t.2.2⟩, hs.d, hs.e, hs.q, hs.qd⟩ hp1 rfl, by simp⟩
theorem l22 : lowF Try.prog Try.f22 = some c22 := by kernel_rfl
set_option maxRecDepth 100000 in
set_option maxHeartbeats 16000000 in
theorem enter_body (l : List Obj) (hg : GoodL l) (dir : Int) (name : ByteArray) (hs : name.size ≤ 4194304) (obj : Int) : body Try.prog c22 [objsV l, vInt .i64 dir, vStr name, vInt .i64 obj] []
    (fun r m => ∃ y e, (e = 0 → GoodL y ∧ y.length = l.length) ∧ FrzV m r (twoV y e)) := by
  refine is_ok l dir 0 ?_
  by_cases hI : isS l dir 0 = true
  · rw [hI]
    obtain ⟨n, rfl, hn⟩ := is0_yes hI
    refine is_ok l obj 0 ?_
    by_cases hI2 : isS l obj 0 = true
    · rw [hI2]
      obtain ⟨p, rfl, hp⟩ := is0_yes hI2
      have hog := obj_get hn
      refine ok_some hog ?_
      have hsm := hg.sm _ (List.getElem_mem hn)
      have hset := fun (o : Obj) (ho : o.sm) (hk : o.kind = l[n].kind) => hg.set ho hn hk
      generalize l[n] = o at hsm hog hset
      obtain ⟨kind, data, entries, target, peer, queue, proc, links, up⟩ := o
      obtain ⟨es, rfl⟩ : ∃ es : List (ByteArray × Int), entries = es.map entD := hsm.t.2.1
      have hlen : es.length ≤ 8 := by have := hsm.e; simpa using this
      refine bB_bne (fun h => ?_) (fun h => ?_)
      · exact ⟨[], 11, fun h => absurd h (by decide), frz2 (.one (.esl 9))⟩
      refine ok_some hog ?_
      refine bB_beq (fun h => ?_) (fun h => ?_)
      · exact ⟨[], 6, fun h => absurd h (by decide), frz2 (.one (.esl 9))⟩
      refine name_ok name hs fun b => ?_
      cases b with
      | false => exact ⟨[], 7, fun h => absurd h (by decide), frz2 (.one (.esl 9))⟩
      | true =>
        refine find_ok l hg n name fun f => ?_
        refine bB_dec (fun h => ?_) (fun h => ?_)
        · exact ⟨[], 7, fun h => absurd h (by decide), frz2 (.one (.esl 9))⟩
        refine ok_some hog ?_
        refine bB_dec (fun h => ?_) (fun h8 => ?_)
        · exact ⟨[], 15, fun h => absurd h (by decide), frz2 (.one (.esl 9))⟩
        have h8 : es.length < 8 := by
          have h : ¬ (((es.map entD).length : Int) ≥ 8) := h8
          rw [List.length_map] at h
          omega
        refine ok_some hog ?_
        refine ok_some hog ?_
        have after : ∀ acc : List (ByteArray × Int), acc.length ≤ 8 → ∃ l1, withS l n ⟨kind, data, acc.map entD, target, peer, queue, proc, links, up⟩ = l1 ∧ l1.length ≤ 4194304 ∧ ∃ hp1 : p < l1.length,
            ∀ lk u : Int, GoodL (withS l1 p { l1[p] with links := lk, up := u }) ∧ (withS l1 p { l1[p] with links := lk, up := u }).length = l.length := by
          intro acc hacc
          have hw : withS l n ⟨kind, data, acc.map entD, target, peer, queue, proc, links, up⟩ = l.set n ⟨kind, data, acc.map entD, target, peer, queue, proc, links, up⟩ := by
            rw [withS, if_neg (by omega)]; simp
          have g1 := hset ⟨kind, data, acc.map entD, target, peer, queue, proc, links, up⟩ ⟨⟨hsm.t.1, ⟨acc, rfl⟩, hsm.t.2.2⟩, hsm.d, by simpa using hacc, hsm.q, hsm.qd⟩ rfl
          refine ⟨_, hw, by rw [List.length_set]; have := hg.len; omega, by simpa using hp, fun lk u => ?_⟩
          have := with_good g1 (p := p) (by simpa using hp) lk u
          exact ⟨this.1, this.2.trans (by simp)⟩
        refine loop_keep (fun (a : EntSt) => a.k ≤ es.length ∧ a.acc.length = a.k + a.d.toNat) [0, 1, 2, 3, 10, 63, 64] (fun a => [(65, vInt .i64 (a.k : Nat)), (11, vBool a.d)])
          (fun a => match a.acc with
            | [] => [.var [.dat (.val (.int .i64 kind)), .dat (.sl 1 data), .esl, .dat (.val (.string target)), .dat (.val (.int .i64 peer)), .dat (.sl 4 (queue.map Msg.enc)), .dat (.val (.int .i64 proc)), .dat (.val (.int .i64 links)), .dat (.val (.int .i64 up))]]
            | x :: r => [.var [.dat (.val (.int .i64 kind)), .dat (.sl 1 data), .row 1 2 0 none, .dat (.val (.string target)), .dat (.val (.int .i64 peer)), .dat (.sl 4 (queue.map Msg.enc)), .dat (.val (.int .i64 proc)), .dat (.val (.int .i64 links)), .dat (.val (.int .i64 up))], .row 2 (dRows ((x :: r).map entD))])
          (fun a => es.length - a.k) ⟨0, false, []⟩ ⟨Nat.zero_le _, rfl⟩ ?_ (fun a ha => ?_)
        · refine View.of 1 [0] [] rfl rfl rfl rfl rfl rfl ?_ ?_
          · repeat (first | exact .nil | refine .junk ?_ | refine .eq rfl ?_)
          · exact .put (notF rfl) rfl (.eq rfl (by simp)) (.nil _)
        obtain ⟨k, d, acc⟩ := a
        obtain ⟨hJ1, hJ2⟩ := ha
        have hJ1 : k ≤ es.length := hJ1
        have hJ2 : acc.length = k + d.toNat := hJ2
        have hd1 : d.toNat ≤ 1 := by cases d <;> simp
        cases acc with
        | nil =>
          refine bB_dec (fun h => ?_) (fun h => ?_)
          · have hlt : k < es.length := by
              have h : (k : Int) < ((es.map entD).length : Int) := h
              rw [List.length_map] at h
              omega
            refine ok_some (ent_get hlt) ?_
            cases d with
            | true =>
              simp at hJ2
            | false =>
              refine bB_split (fun _ => ?_) (fun _ => ?_)
              · refine ⟨by simp [subL, dRows] <;> omega, ?_⟩
                refine ⟨by simp [subL, dRows] <;> omega, ?_⟩
                refine ⟨⟨k + 1, true, ([(name, (p : Int)), es[k]])⟩, ⟨hlt, by simp at hJ2 ⊢; omega⟩, (show es.length - (k + 1) < es.length - k by omega), View.of 6 [0, 5] [] rfl rfl rfl rfl rfl rfl ?_ ?_⟩
                · repeat (first | exact .nil | refine .junk ?_ | refine .put (.ren (next_i64 (by omega)).symm) ?_ | refine .eq rfl ?_)
                · exact .put (notF rfl) rfl (.eq rfl (by simp)) (.put (notF rfl) rfl (.rowDE (by simp [subL, dRows, entD])) (.nil _))
              · refine ⟨by simp [subL, dRows] <;> omega, ?_⟩
                refine ⟨⟨k + 1, false, ([es[k]])⟩, ⟨hlt, by simp at hJ2 ⊢; omega⟩, (show es.length - (k + 1) < es.length - k by omega), View.of 4 [0, 3] [] rfl rfl rfl rfl rfl rfl ?_ ?_⟩
                · repeat (first | exact .nil | refine .junk ?_ | refine .put (.ren (next_i64 (by omega)).symm) ?_ | refine .eq rfl ?_)
                · exact .put (notF rfl) rfl (.eq rfl (by simp)) (.put (notF rfl) rfl (.rowDE (by simp [subL, dRows, entD])) (.nil _))
          · have hke : k = es.length := by
              have h : ¬ (k : Int) < ((es.map entD).length : Int) := h
              rw [List.length_map] at h
              omega
            cases d with
            | true => simp at hJ2
            | false =>
              refine ⟨by simp [subL, dRows] <;> omega, ?_⟩
              obtain ⟨l1, hw, hl1, hp1, fin1⟩ := after ([(name, (p : Int))]) (by simp at hJ2 ⊢ <;> omega)
              refine acall_pre (args' := [objsV l, vInt .i64 (n : Nat), (Obj.mk kind data (([(name, (p : Int))]).map entD) target peer queue proc links up).cv]) (m' := [.dead, .dead, .dead]) (View.of 3 [0, 1, 2] [2] rfl rfl rfl rfl rfl rfl
                (.eq rfl (.eq rfl (.put (CcsVw.agg (.cons (.ren (.dat _)) (.cons (.ren (.dat _)) (.cons (.frz (frzE (Z := fun k => memN [2] k = true) rfl rfl (by simp [subL, dRows, entD]))) (.cons (.ren (.dat _)) (.cons (.ren (.dat _)) (.cons (.ren (.dat _)) (.cons (.ren (.dat _)) (.cons (.ren (.dat _)) (.cons (.ren (.dat _)) .nil)))))))))) .nil)))
                (.dead (.dead (.dead (.nil _))))) ?_
              refine with_ok l hg.fit.1 n (by omega) _ ?_
              rw [hw]
              refine ok_some (obj_get hp1) ?_
              refine bB_beq (fun h => ?_) (fun h => ?_)
              · refine with_ok l1 hl1 p (by omega) { l1[p] with links := IntKind.i64.wrap (l1[p].links + 1), up := n } ?_
                exact ⟨_, 0, fun _ => fin1 _ _, frz2 (FrzR.self rfl)⟩
              · refine with_ok l1 hl1 p (by omega) { l1[p] with links := IntKind.i64.wrap (l1[p].links + 1) } ?_
                exact ⟨_, 0, fun _ => fin1 _ _, frz2 (FrzR.self rfl)⟩
        | cons x r =>
          have hr : r.length ≤ 9 := by simp at hJ2; omega
          refine bB_dec (fun h => ?_) (fun h => ?_)
          · have hlt : k < es.length := by
              have h : (k : Int) < ((es.map entD).length : Int) := h
              rw [List.length_map] at h
              omega
            refine ok_some (ent_get hlt) ?_
            cases d with
            | true =>
              refine ⟨by simp [subL, dRows] <;> omega, ?_⟩
              refine ⟨⟨k + 1, true, ((x :: r) ++ [es[k]])⟩, ⟨hlt, by simp at hJ2 ⊢; omega⟩, (show es.length - (k + 1) < es.length - k by omega), View.of 5 [0, 4] [] rfl rfl rfl rfl rfl rfl ?_ ?_⟩
              · repeat (first | exact .nil | refine .junk ?_ | refine .put (.ren (next_i64 (by omega)).symm) ?_ | refine .eq rfl ?_)
              · exact .put (notF rfl) rfl (.eq rfl (by simp)) (.put (notF rfl) rfl (.rowDE (by simp [subL, dRows, entD])) (.nil _))
            | false =>
              refine bB_split (fun _ => ?_) (fun _ => ?_)
              · refine ⟨by simp [subL, dRows] <;> omega, ?_⟩
                refine ⟨by simp [subL, dRows] <;> omega, ?_⟩
                refine ⟨⟨k + 1, true, ((x :: r) ++ [(name, (p : Int)), es[k]])⟩, ⟨hlt, by simp at hJ2 ⊢; omega⟩, (show es.length - (k + 1) < es.length - k by omega), View.of 7 [0, 6] [] rfl rfl rfl rfl rfl rfl ?_ ?_⟩
                · repeat (first | exact .nil | refine .junk ?_ | refine .put (.ren (next_i64 (by omega)).symm) ?_ | refine .eq rfl ?_)
                · exact .put (notF rfl) rfl (.eq rfl (by simp)) (.put (notF rfl) rfl (.rowDE (by simp [subL, dRows, entD])) (.nil _))
              · refine ⟨by simp [subL, dRows] <;> omega, ?_⟩
                refine ⟨⟨k + 1, false, ((x :: r) ++ [es[k]])⟩, ⟨hlt, by simp at hJ2 ⊢; omega⟩, (show es.length - (k + 1) < es.length - k by omega), View.of 5 [0, 4] [] rfl rfl rfl rfl rfl rfl ?_ ?_⟩
                · repeat (first | exact .nil | refine .junk ?_ | refine .put (.ren (next_i64 (by omega)).symm) ?_ | refine .eq rfl ?_)
                · exact .put (notF rfl) rfl (.eq rfl (by simp)) (.put (notF rfl) rfl (.rowDE (by simp [subL, dRows, entD])) (.nil _))
          · have hke : k = es.length := by
              have h : ¬ (k : Int) < ((es.map entD).length : Int) := h
              rw [List.length_map] at h
              omega
            cases d with
            | true =>
              obtain ⟨l1, hw, hl1, hp1, fin1⟩ := after ((x :: r)) (by simp at hJ2 ⊢ <;> omega)
              refine acall_pre (args' := [objsV l, vInt .i64 (n : Nat), (Obj.mk kind data (((x :: r)).map entD) target peer queue proc links up).cv]) (m' := [.dead, .dead]) (View.of 2 [0, 1] [1] rfl rfl rfl rfl rfl rfl
                (.eq rfl (.eq rfl (.put (CcsVw.agg (.cons (.ren (.dat _)) (.cons (.ren (.dat _)) (.cons (.frz (frzE (Z := fun k => memN [1] k = true) rfl rfl (by simp [subL, dRows, entD]))) (.cons (.ren (.dat _)) (.cons (.ren (.dat _)) (.cons (.ren (.dat _)) (.cons (.ren (.dat _)) (.cons (.ren (.dat _)) (.cons (.ren (.dat _)) .nil)))))))))) .nil)))
                (.dead (.dead (.nil _)))) ?_
              refine with_ok l hg.fit.1 n (by omega) _ ?_
              rw [hw]
              refine ok_some (obj_get hp1) ?_
              refine bB_beq (fun h => ?_) (fun h => ?_)
              · refine with_ok l1 hl1 p (by omega) { l1[p] with links := IntKind.i64.wrap (l1[p].links + 1), up := n } ?_
                exact ⟨_, 0, fun _ => fin1 _ _, frz2 (FrzR.self rfl)⟩
              · refine with_ok l1 hl1 p (by omega) { l1[p] with links := IntKind.i64.wrap (l1[p].links + 1) } ?_
                exact ⟨_, 0, fun _ => fin1 _ _, frz2 (FrzR.self rfl)⟩
            | false =>
              refine ⟨by simp [subL, dRows] <;> omega, ?_⟩
              obtain ⟨l1, hw, hl1, hp1, fin1⟩ := after (((x :: r) ++ [(name, (p : Int))])) (by simp at hJ2 ⊢ <;> omega)
              refine acall_pre (args' := [objsV l, vInt .i64 (n : Nat), (Obj.mk kind data ((((x :: r) ++ [(name, (p : Int))])).map entD) target peer queue proc links up).cv]) (m' := [.dead, .dead, .dead, .dead]) (View.of 4 [0, 1, 2, 3] [3] rfl rfl rfl rfl rfl rfl
                (.eq rfl (.eq rfl (.put (CcsVw.agg (.cons (.ren (.dat _)) (.cons (.ren (.dat _)) (.cons (.frz (frzE (Z := fun k => memN [3] k = true) rfl rfl (by simp [subL, dRows, entD]))) (.cons (.ren (.dat _)) (.cons (.ren (.dat _)) (.cons (.ren (.dat _)) (.cons (.ren (.dat _)) (.cons (.ren (.dat _)) (.cons (.ren (.dat _)) .nil)))))))))) .nil)))
                (.dead (.dead (.dead (.dead (.nil _)))))) ?_
              refine with_ok l hg.fit.1 n (by omega) _ ?_
              rw [hw]
              refine ok_some (obj_get hp1) ?_
              refine bB_beq (fun h => ?_) (fun h => ?_)
              · refine with_ok l1 hl1 p (by omega) { l1[p] with links := IntKind.i64.wrap (l1[p].links + 1), up := n } ?_
                exact ⟨_, 0, fun _ => fin1 _ _, frz2 (FrzR.self rfl)⟩
              · refine with_ok l1 hl1 p (by omega) { l1[p] with links := IntKind.i64.wrap (l1[p].links + 1) } ?_
                exact ⟨_, 0, fun _ => fin1 _ _, frz2 (FrzR.self rfl)⟩
    · rw [Bool.not_eq_true] at hI2
      rw [hI2]
      exact ⟨[], 6, fun h => absurd h (by decide), frz2 (.one (.esl 9))⟩
  · rw [Bool.not_eq_true] at hI
    rw [hI]
    exact ⟨[], 6, fun h => absurd h (by decide), frz2 (.one (.esl 9))⟩
set_option maxRecDepth 100000 in
theorem enter_ok (l : List Obj) (hg : GoodL l) (dir : Int) (name : ByteArray) (hs : name.size ≤ 4194304) (obj : Int) {m : Mem} {K : CV → Mem → Prop} (h : ∀ y e, (e = 0 → GoodL y ∧ y.length = l.length) → K (twoV y e) m) :
    ACall Try.prog 22 [objsV l, vInt .i64 dir, vStr name, vInt .i64 obj] m K := by
  refine acall_frame (K0 := fun r m => ∃ y e, (e = 0 → GoodL y ∧ y.length = l.length) ∧ FrzV m r (twoV y e)) (acall_body Try.func22 l22 rfl (Nat.le_of_ble_eq_true rfl) (enter_body l hg dir name hs obj)) (by simp [vStr, vInt, objsV, CV.isD, CC.isD, RV.isD]) fun r m1 hr => ?_
  obtain ⟨y, e, hy, hf⟩ := hr
  exact ⟨_, hf, h y e hy⟩

def c24 : LF := ⟨54, [.tmp 4, .tmp 5, .tmp 6], (.seq (.reg [
    ⟨(some 3), .box (.t 1), none⟩,
    ⟨(some 4), .mov (.c (.rv (.one .esl))), none⟩,
    ⟨(some 5), .mov (.c (.rv (.one (.dat (.val (.int .i64 (0))))))), none⟩,
    ⟨(some 6), .mov (.c (.rv (.one (.dat (.val (.int .i64 (0))))))), none⟩]) (.seq (.seq (.reg [
    ⟨(some 9), .fadr 1 (.t 3), none⟩,
    ⟨(some 10), .load false 1 (.t 9), none⟩,
    ⟨(some 11), .bin .lss (.t 10) (.c (.rv (.one (.dat (.val (.int .i64 (0))))))), none⟩,
    ⟨(some 12), .mov (.t 11), none⟩,
    ⟨(some 13), .fadr 1 (.t 3), (some (12, false))⟩,
    ⟨(some 14), .load false 1 (.t 13), (some (12, false))⟩,
    ⟨(some 15), .bin .gtr (.t 14) (.c (.rv (.one (.dat (.val (.int .i64 (4095))))))), (some (12, false))⟩,
    ⟨(some 16), .pick (.t 12) (.c (.rv (.one (.dat (.val (.bool true)))))) (.t 15), none⟩,
    ⟨(some 17), .mov (.t 16), none⟩,
    ⟨(some 18), .fadr 0 (.t 3), (some (17, false))⟩,
    ⟨(some 19), .load false 1 (.t 18), (some (17, false))⟩,
    ⟨(some 20), .bin .lss (.t 19) (.c (.rv (.one (.dat (.val (.int .i64 (0))))))), (some (17, false))⟩,
    ⟨(some 21), .pick (.t 17) (.c (.rv (.one (.dat (.val (.bool true)))))) (.t 20), none⟩]) (.cond (.t 21) (.seq (.reg [
    ⟨(some 4), .mov (.c (.rv (.one .esl))), none⟩,
    ⟨(some 5), .mov (.c (.rv (.one (.dat (.val (.int .i64 (0))))))), none⟩,
    ⟨(some 6), .mov (.c (.rv (.one (.dat (.val (.int .i64 (3))))))), none⟩]) .ret) .skip)) (.seq (.reg [
    ⟨(some 22), .bsl 3 [(.dat (.val (.bool false))), (.dat (.val (.int .i64 (0)))), (.dat (.val (.int .i64 (0))))] 0 [], none⟩,
    ⟨(some 23), .mov (.t 0), none⟩,
    ⟨(some 24), .app 3 24 (.t 22) (.t 23), none⟩,
    ⟨(some 7), .mov (.t 24), none⟩]) (.seq (.seq (.reg [
    ⟨(some 25), .mov (.t 7), none⟩,
    ⟨(some 26), .len 1 (.t 25), none⟩,
    ⟨(some 27), .mov (.c (.rv (.one (.dat (.val (.int .i64 (0))))))), none⟩]) (.block 0 (.loop (.seq (.reg [
    ⟨(some 28), .bin .lss (.t 27) (.t 26), none⟩]) (.seq (.cond (.t 28) .skip (.exit 0)) (.seq (.block 1 (.seq (.reg [
    ⟨(some 29), .mov (.t 27), none⟩,
    ⟨(some 8), .mov (.t 29), none⟩]) (.seq (.reg [
    ⟨(some 30), .mov (.t 7), none⟩,
    ⟨(some 31), .mov (.t 8), none⟩,
    ⟨(some 32), .idx 3 (.t 30) (.t 31), none⟩,
    ⟨(some 33), .fadr 0 (.t 32), none⟩,
    ⟨(some 34), .load false 1 (.t 33), none⟩,
    ⟨(some 35), .un .not (.t 34), none⟩]) (.cond (.t 35) (.seq (.reg [
    ⟨(some 36), .mov (.t 7), none⟩,
    ⟨(some 37), .mov (.t 8), none⟩,
    ⟨(some 38), .load true 2 (.t 3), none⟩,
    ⟨(some 39), .build [(.dat (.val (.bool false))), (.dat (.val (.int .i64 (0)))), (.dat (.val (.int .i64 (0))))] [(0, 1, (.c (.rv (.one (.dat (.val (.bool true))))))), (1, 2, (.t 38))], none⟩,
    ⟨(some 40), .idx 3 (.t 36) (.t 37), none⟩,
    ⟨none, .store 3 (.t 40) (.t 39), none⟩]) (.seq (.reg [
    ⟨(some 41), .mov (.t 7), none⟩,
    ⟨(some 42), .mov (.t 8), none⟩,
    ⟨(some 4), .mov (.t 41), none⟩,
    ⟨(some 5), .mov (.t 42), none⟩,
    ⟨(some 6), .mov (.c (.rv (.one (.dat (.val (.int .i64 (0))))))), none⟩]) .ret)) .skip)))) (.reg [
    ⟨(some 43), .bin .add (.t 27) (.c (.rv (.one (.dat (.val (.int .i64 (1))))))), none⟩,
    ⟨(some 27), .mov (.t 43), none⟩]))))))) (.seq (.seq (.reg [
    ⟨(some 44), .mov (.t 7), none⟩,
    ⟨(some 45), .len 1 (.t 44), none⟩,
    ⟨(some 46), .bin .geq (.t 45) (.c (.rv (.one (.dat (.val (.int .i64 (10))))))), none⟩]) (.cond (.t 46) (.seq (.reg [
    ⟨(some 4), .mov (.c (.rv (.one .esl))), none⟩,
    ⟨(some 5), .mov (.c (.rv (.one (.dat (.val (.int .i64 (0))))))), none⟩,
    ⟨(some 6), .mov (.c (.rv (.one (.dat (.val (.int .i64 (15))))))), none⟩]) .ret) .skip)) (.seq (.reg [
    ⟨(some 47), .mov (.t 7), none⟩,
    ⟨(some 48), .load true 2 (.t 3), none⟩,
    ⟨(some 49), .build [(.dat (.val (.bool false))), (.dat (.val (.int .i64 (0)))), (.dat (.val (.int .i64 (0))))] [(0, 1, (.c (.rv (.one (.dat (.val (.bool true))))))), (1, 2, (.t 48))], none⟩,
    ⟨(some 50), .bsl 3 [(.dat (.val (.bool false))), (.dat (.val (.int .i64 (0)))), (.dat (.val (.int .i64 (0))))] 1 [(0, (.t 49))], none⟩,
    ⟨(some 51), .app 3 24 (.t 47) (.t 50), none⟩,
    ⟨(some 52), .mov (.t 0), none⟩,
    ⟨(some 53), .len 1 (.t 52), none⟩,
    ⟨(some 4), .mov (.t 51), none⟩,
    ⟨(some 5), .mov (.t 53), none⟩,
    ⟨(some 6), .mov (.c (.rv (.one (.dat (.val (.int .i64 (0))))))), none⟩]) .ret))))))⟩
/-! Put of the document: what it says fits -/
structure Sl3 where
  has : Bool
  opn : Int
  rts : Int
def Sl3.enc (s : Sl3) : List Dt := [.val (.bool s.has), .val (.int .i64 s.opn), .val (.int .i64 s.rts)]
def sl3D (l : List Sl3) : Dt := .sl 3 (l.map Sl3.enc)
def sl3R (l : List Sl3) : RV := .one (.dat (sl3D l))
def sl3V (l : List Sl3) : CV := .rv (.one (.dat (sl3D l)))
theorem dRows_nth' {α : Type} (f : α → List Dt) (l : List α) {k : Nat} (h : k < l.length) : nth (dRows (l.map f)) k = some ((f l[k]).map .dat) := by
  rw [nth_eq, dRows, List.getElem?_map, List.getElem?_map, List.getElem?_eq_getElem h]; rfl
theorem dRows_set' {α : Type} (f : α → List Dt) (l : List α) (k : Nat) (x : α) : setN (dRows (l.map f)) k ((f x).map .dat) = dRows ((l.set k x).map f) := by
  rw [setN_eq, dRows, dRows, List.map_set, List.map_set]
theorem frz3b {m : Mem} {a b : RV} {x y : Int} (h : FrzR m a b) : FrzV m (.tup [a, iRV x, iRV y]) (.tup [b, iRV x, iRV y]) := frz3 h (FrzR.self rfl)
theorem l24 : lowF Try.prog Try.f24 = some c24 := by kernel_rfl
set_option maxRecDepth 100000 in
set_option maxHeartbeats 8000000 in
theorem rput_body (l : List Sl3) (hl : l.length ≤ 10) (opn rts : Int) : body Try.prog c24 [sl3V l, .rv (.agg [.dat (.val (.int .i64 opn)), .dat (.val (.int .i64 rts))])] []
    (fun r m => ∃ (y : List Sl3) (fd e : Int), (e = 0 → y.length ≤ 10) ∧ FrzV m r (.tup [sl3R y, iRV fd, iRV e])) := by
  have bad : ∀ m e, e ≠ 0 → ∃ (y : List Sl3) (fd : Int) (e' : Int), (e' = 0 → y.length ≤ 10) ∧ FrzV m (.tup [.one .esl, iRV 0, iRV e]) (.tup [sl3R y, iRV fd, iRV e']) := fun m e he => ⟨[], 0, e, fun h => absurd h he, frz3b (.one (.esl 3))⟩
  refine bB_dec (fun h => ?_) (fun h1 => ?_)
  · exact bad _ 3 (by decide)
  refine bB_dec (fun h => ?_) (fun h2 => ?_)
  · exact bad _ 3 (by decide)
  refine bB_dec (fun h => ?_) (fun h3 => ?_)
  · exact bad _ 3 (by decide)
  refine ⟨by simp [dRows, subL] <;> omega, ?_⟩
  refine loop_keep (fun k => k ≤ l.length) [0, 3, 26] (fun k => [(27, vInt .i64 (k : Nat)), (7, .rv (.one (.row 1 3 0 none))), (25, .rv (.one (.row 1 3 0 none)))])
    (fun _ => [.var [.dat (.val (.int .i64 opn)), .dat (.val (.int .i64 rts))], .row 3 (dRows (l.map Sl3.enc))]) (fun k => l.length - k) 0 (Nat.zero_le _) ?_ (fun k hk => ?_)
  · refine View.of 3 [0, 2] [] rfl rfl rfl rfl rfl rfl ?_ ?_
    · repeat (first | exact .nil | refine .junk ?_ | refine .eq rfl ?_)
    · exact .put (notF rfl) rfl (.eq rfl (by simp)) (.put (notF rfl) rfl (.rowDE (by simp [subL, dRows])) (.nil _))
  have hk : k ≤ l.length := hk
  have hlen : (dRows (l.map Sl3.enc)).length = l.length := by simp [dRows]
  refine bB_dec (fun h => ?_) (fun h => ?_)
  · have hlt : k < l.length := by
      have h : (k : Int) < (((([] : List (List CC)) ++ dRows (l.map Sl3.enc)).length : Nat) : Int) := h
      rw [List.nil_append, hlen] at h
      omega
    have hidx : idxZ (k : Int) (lenOf (dRows (l.map Sl3.enc)).length 0 none) = some k := idxZ_nat (by simpa [hlen, lenOf] using hlt)
    refine ok_some hidx ?_
    refine ok_some (dRows_nth' Sl3.enc l hlt) ?_
    have hk2 : k < 10 := by omega
    generalize l[k] = s
    refine bB_split (fun _ => ?_) (fun _ => ?_)
    · refine ok_some hidx ?_
      refine ok_some (dRows_nth' Sl3.enc l hlt) ?_
      refine ⟨l.set k ⟨true, opn, rts⟩, k, 0, fun _ => by simpa using hl, frz3b (.one (FrzC.rowD ?_ 0 none))⟩
      show some (Bk.row 3 (setN (dRows (l.map Sl3.enc)) k _)) = _
      rw [← dRows, ← dRows_set' Sl3.enc]
      rfl
    · refine ⟨k + 1, hlt, (show l.length - (k + 1) < l.length - k by omega), View.of 2 [0, 1] [] rfl rfl rfl rfl rfl rfl ?_ ?_⟩
      · repeat (first | exact .nil | refine .junk ?_ | refine .put (.ren (next_i64 (by omega)).symm) ?_ | refine .eq rfl ?_)
      · exact .put (notF rfl) rfl (.eq rfl (by simp)) (.put (notF rfl) rfl (.rowDE rfl) (.nil _))
  · refine bB_dec (fun h => ?_) (fun h10 => ?_)
    · exact bad _ 15 (by decide)
    · have h10 : l.length < 10 := by
        have h : ¬ (((dRows (l.map Sl3.enc)).length : Int) ≥ 10) := h10
        rw [hlen] at h
        omega
      refine ⟨by simp [dRows, subL] <;> omega, ?_⟩
      refine ⟨l ++ [⟨true, opn, rts⟩], _, 0, fun _ => by simp <;> omega, frz3b (.one (FrzC.rowD ?_ 0 none))⟩
      show some (Bk.row 3 _) = some (Bk.row 3 _)
      simp [subL, dRows, Sl3.enc]
set_option maxRecDepth 100000 in
theorem rput_ok (l : List Sl3) (hl : l.length ≤ 10) (opn rts : Int) {m : Mem} {K : CV → Mem → Prop} (h : ∀ (y : List Sl3) (fd e : Int), (e = 0 → y.length ≤ 10) → K (.tup [sl3R y, iRV fd, iRV e]) m) :
    ACall Try.prog 24 [sl3V l, .rv (.agg [.dat (.val (.int .i64 opn)), .dat (.val (.int .i64 rts))])] m K := by
  refine acall_frame (K0 := fun r m => ∃ (y : List Sl3) (fd e : Int), (e = 0 → y.length ≤ 10) ∧ FrzV m r (.tup [sl3R y, iRV fd, iRV e])) (acall_body (args := [sl3V l, .rv (.agg [.dat (.val (.int .i64 opn)), .dat (.val (.int .i64 rts))])]) Try.func24 l24 rfl (Nat.le_of_ble_eq_true rfl) (rput_body l hl opn rts)) (by simp [sl3V, sl3D, CV.isD, CC.isD, RV.isD]) fun r m1 hr => ?_
  obtain ⟨y, fd, e, hy, hf⟩ := hr
  exact ⟨_, hf, h y fd e hy⟩

end Go.Proofs.Ytnlhnmlojcfljaa
