import Derived.Test.YtflieebgiejjpaaAmZ2
import Derived.Test.YtflieebgiejjpaaDvBpf3r2
import Derived.Test.YtflieebgiejjpaaAmY
set_option linter.unusedVariables false
set_option linter.unusedSimpArgs false
namespace Go.Proofs.Ytflieebgiejjpaa
open Go.AM Go.ChangeShapes Go.WideShapes Go.ChangeAt Go.RowKit
set_option maxRecDepth 100000 in
set_option maxHeartbeats 16000000 in
theorem r39_3 {p : List Ins} {k : Nat} (hlt : k < p.length) (h400 : p.length ≤ 400) {jt jf ik : Int} (hg : getZ (p.map Ins.enc) (k : Nat) = some [.val (.int .i64 3), .val (.int .i64 jt), .val (.int .i64 jf), .val (.int .i64 ik)])
    (bad : ∀ e, insE ⟨3, jt, jf, ik⟩ k p.length = e → e ≠ 0 → fltV (e, (k : Int)) = fltV (checkS p)) (good : insE ⟨3, jt, jf, ik⟩ k p.length = 0 → J39 p (k + 1)) : Round39 p k := by
  obtain ⟨L, hL⟩ : ∃ L : Int, L = (p.length : Int) - (k : Int) - 2 := ⟨_, rfl⟩
  have hleft := left39 h400 hlt
  rw [← hL] at hleft
  refine bB_yes (lt39 hlt) ?_
  refine ok_some hg ?_
  refine ghost_keep [2, 3, 4, 5, 18, 19, 20] [(6, vInt .i64 L), (0, insV p)] [.var [.dat (.val (.int .i64 0)), .dat (.val (.int .i64 0))], .var [.dat (.val (.int .i64 3)), .dat (.val (.int .i64 jt)), .dat (.val (.int .i64 jf)), .dat (.val (.int .i64 ik))]] (View.of 2 [0, 1] [] rfl rfl rfl rfl rfl rfl ?_ ?_) ?_
  · repeat (first | exact .nil | refine .junk ?_ | refine .eq (congrArg (fun x => vInt .i64 x) hleft.symm) ?_ | refine .eq rfl ?_)
  · exact .put (by simp [memN]) rfl (.eq rfl (by simp)) (.put (by simp [memN]) rfl (.eq rfl (by simp)) (.nil _))
  clear hleft
  refine bB_dec (fun h => ?_) (fun h22 => ?_)
  · exact bad 3 (by rw [insE_j _ _ _ _ _ _ (by omega)]; rw [if_pos (by omega)]) (by decide)
  refine bB_dec (fun h => ?_) (fun h23 => ?_)
  · exact bad 3 (by rw [insE_j _ _ _ _ _ _ (by omega)]; rw [if_pos (by omega)]) (by decide)
  refine bB_dec (fun h => ?_) (fun h24 => ?_)
  · exact bad 3 (by rw [insE_j _ _ _ _ _ _ (by omega)]; rw [if_pos (by omega)]) (by decide)
  refine bB_dec (fun h => ?_) (fun h25 => ?_)
  · exact bad 3 (by rw [insE_j _ _ _ _ _ _ (by omega)]; rw [if_pos (by omega)]) (by decide)
  refine bB_dec (fun h => ?_) (fun h26 => ?_)
  · exact bad 3 (by rw [insE_j _ _ _ _ _ _ (by omega)]; rw [if_pos (by omega)]) (by decide)
  refine bB_dec (fun h => ?_) (fun h27 => ?_)
  · exact bad 3 (by rw [insE_j _ _ _ _ _ _ (by omega)]; rw [if_pos (by omega)]) (by decide)
  refine bB_dec (fun h => ?_) (fun h28 => ?_)
  · exact bad 3 (by rw [insE_j _ _ _ _ _ _ (by omega)]; rw [if_pos (by omega)]) (by decide)
  refine bB_dec (fun h => ?_) (fun h29 => ?_)
  · exact bad 3 (by rw [insE_j _ _ _ _ _ _ (by omega)]; rw [if_pos (by omega)]) (by decide)
  refine ⟨k + 1, good (by rw [insE_j _ _ _ _ _ _ (by omega)]; rw [if_neg (by omega)]), (show p.length - (k + 1) < p.length - k by omega), View.of 2 [0] [] rfl rfl rfl rfl rfl rfl ?_ ?_⟩
  · repeat (first | exact .nil | refine .junk ?_ | refine .put (.ren (next_i64 (by omega)).symm) ?_ | refine .eq rfl ?_)
  · exact .put (by simp [memN]) rfl (.eq rfl (by simp)) (.nil _)
end Go.Proofs.Ytflieebgiejjpaa
