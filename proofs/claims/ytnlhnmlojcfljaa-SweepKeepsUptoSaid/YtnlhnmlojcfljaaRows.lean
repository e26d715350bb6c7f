/-
  No cell of these rows narrows 'for every input' (looked for: loops, veiled, ifaces, maps, wideKeys, modest, calm, conditions, laid).
  DERIVED. THE GIVEN ROWS OF THIS SEAT. 3 by the template 'for every input the law returns true; each argument reads behind the call as it read before'; 0 by the template 'total and deterministic' (their statements: YtnlhnmlojcfljaaTotals.lean).
  GIVEN WITH THE SEED: the statements are not yours to turn. If you find one false, say at which input.
  Laid BY PROGRAM, IN A SANDBOX (cutbox-rows.mjs): the forced cells as the released guide's own fill.sh prints them over the translation 97dd76cdcc7a7c5a… (all of the seat's roots in one cut). By AI agents, Wed Nov 11 2026. No macro, syntax, notation, axiom, sorry.
-/
import Derived.Test.YtnlhnmlojcfljaaChecked
import GoSem.Claim
import GoSem.ClaimJoined
import GoSem.ClaimMapViews
import Derived.JoinedTies
import Derived.KernelRfl
namespace Go.Proofs.Ytnlhnmlojcfljaa
/- THE CELL 'sum', in the pinned program and in every row, IS THE sha256 OF THE DUMP (.gsa) THAT YtnlhnmlojcfljaaProg.lean LOADS. Nothing in Lean hashes anything: it is a label: what it is worth is what the hold of that sum in a sandbox is worth. -/
noncomputable def Try.pinned : Pinned := { name := "ytnlhnmlojcfljaa", sum := "97dd76cdcc7a7c5ad0ecc0e0d0f0ebb034a141fb94d501c0963a8e30614be5dc", checked := Try.checked }
namespace Rows
def none {H : Type} : Left H := { results := [], args := [] }

/-- 'rglaw9.ChannelTells': WHATEVER THE INPUT: true; the input reads as it did. -/
def channelTellsSpec : ChangeSpec := { name := "channelTells", fn := fun _ => fun
  | [d1, d2, d3] => { results := [.lit (.bool true)], args := [d1, d2, d3] }
  | _ => none }
def channelTellsRow : OpenClaim := { program := "ytnlhnmlojcfljaa", sum := "97dd76cdcc7a7c5ad0ecc0e0d0f0ebb034a141fb94d501c0963a8e30614be5dc", func := "ringfence/rglaw9.ChannelTells", spec := "channelTells", unfollowed := true, recurses := true, apart := false }
def ChannelTellsSaid : Prop := channelTellsRow.holds Try.pinned (OpenSpec.ofChange channelTellsSpec)

/-- ITS FALSE NEIGHBOUR: 'it returns false'. Refute it at one input. -/
def channelTellsWrong : ChangeSpec := { name := "channelTells", fn := fun _ => fun
  | [d1, d2, d3] => { results := [.lit (.bool false)], args := [d1, d2, d3] }
  | _ => none }
def ChannelTellsWrongFalsely : Prop := channelTellsRow.holds Try.pinned (OpenSpec.ofChange channelTellsWrong)

/-- 'rglaw8.SweepTwice': WHATEVER THE INPUT: true; the input reads as it did. -/
def sweepTwiceSpec : ChangeSpec := { name := "sweepTwice", fn := fun _ => fun
  | [d] => { results := [.lit (.bool true)], args := [d] }
  | _ => none }
def sweepTwiceRow : OpenClaim := { program := "ytnlhnmlojcfljaa", sum := "97dd76cdcc7a7c5ad0ecc0e0d0f0ebb034a141fb94d501c0963a8e30614be5dc", func := "ringfence/rglaw8.SweepTwice", spec := "sweepTwice", unfollowed := true, recurses := true, apart := false }
def SweepTwiceSaid : Prop := sweepTwiceRow.holds Try.pinned (OpenSpec.ofChange sweepTwiceSpec)

/-- ITS FALSE NEIGHBOUR: 'it returns false'. Refute it at one input. -/
def sweepTwiceWrong : ChangeSpec := { name := "sweepTwice", fn := fun _ => fun
  | [d] => { results := [.lit (.bool false)], args := [d] }
  | _ => none }
def SweepTwiceWrongFalsely : Prop := sweepTwiceRow.holds Try.pinned (OpenSpec.ofChange sweepTwiceWrong)

/-- 'rglaw8.SweepKeeps': WHATEVER THE INPUT: true; the input reads as it did. -/
def sweepKeepsSpec : ChangeSpec := { name := "sweepKeeps", fn := fun _ => fun
  | [d] => { results := [.lit (.bool true)], args := [d] }
  | _ => none }
def sweepKeepsRow : OpenClaim := { program := "ytnlhnmlojcfljaa", sum := "97dd76cdcc7a7c5ad0ecc0e0d0f0ebb034a141fb94d501c0963a8e30614be5dc", func := "ringfence/rglaw8.SweepKeeps", spec := "sweepKeeps", unfollowed := true, recurses := true, apart := false }
def SweepKeepsSaid : Prop := sweepKeepsRow.holds Try.pinned (OpenSpec.ofChange sweepKeepsSpec)

/-- ITS FALSE NEIGHBOUR: 'it returns false'. Refute it at one input. -/
def sweepKeepsWrong : ChangeSpec := { name := "sweepKeeps", fn := fun _ => fun
  | [d] => { results := [.lit (.bool false)], args := [d] }
  | _ => none }
def SweepKeepsWrongFalsely : Prop := sweepKeepsRow.holds Try.pinned (OpenSpec.ofChange sweepKeepsWrong)

/- THE SECOND FORM. 'bulk': how many values and letters a reading holds, each counted each time it is reached (what is shared counts as often as it is met; a slice's spare places count too). A statement '..UptoSaid' is the law's where the arguments, and the package variables that the reading takes, are together of bulk at most 1048576: NARROWER than '..Said'. Prove '..Said' where nothing that the law and all that it calls make is longer than what came in: it says more and counts as full. Else prove '..UptoSaid'. A law counts once. -/
mutual
def uptoBulk {H : Type} : DataW H → Nat
  | .lit (.string bytes) => bytes.length + 1
  | .lit _ => 1
  | .nil => 1
  | .ptr d => uptoBulk d + 1
  | .slice elems spare => uptoBulkAll elems + uptoBulkAll spare + 1
  | .agg parts => uptoBulkAll parts + 1
  | .iface _ d => uptoBulk d + 1
  | .map entries => uptoBulkEntries entries + 1
  | .held _ => 1
def uptoBulkAll {H : Type} : List (DataW H) → Nat
  | [] => 0
  | d :: r => uptoBulk d + uptoBulkAll r
def uptoBulkEntries {H : Type} : List (Lit × DataW H) → Nat
  | [] => 0
  | x :: r => uptoBulkEntry x + uptoBulkEntries r
def uptoBulkEntry {H : Type} : Lit × DataW H → Nat
  | (.string bytes, d) => bytes.length + uptoBulk d + 1
  | (_, d) => uptoBulk d + 1
 end
def uptoSmall : (H : Type) → List (DataW H) → Bool := fun _ ds => decide (uptoBulkAll ds ≤ 1048576)
def OpenSpec.upto (s : _root_.Go.ChangeSpec) : _root_.Go.OpenSpec := { _root_.Go.OpenSpec.ofChange s with cond := some uptoSmall }

/-- 'rglaw9.ChannelTells', WHERE WHAT IT READS IS OF BULK AT MOST 1048576: true; the input reads as it did. -/
def channelTellsUptoRow : OpenClaim := { program := "ytnlhnmlojcfljaa", sum := "97dd76cdcc7a7c5ad0ecc0e0d0f0ebb034a141fb94d501c0963a8e30614be5dc", func := "ringfence/rglaw9.ChannelTells", spec := "channelTells", unfollowed := true, recurses := true, apart := false, narrowed := true }
def ChannelTellsUptoSaid : Prop := channelTellsUptoRow.holds Try.pinned (OpenSpec.upto channelTellsSpec)

/-- 'rglaw8.SweepTwice', WHERE WHAT IT READS IS OF BULK AT MOST 1048576: true; the input reads as it did. -/
def sweepTwiceUptoRow : OpenClaim := { program := "ytnlhnmlojcfljaa", sum := "97dd76cdcc7a7c5ad0ecc0e0d0f0ebb034a141fb94d501c0963a8e30614be5dc", func := "ringfence/rglaw8.SweepTwice", spec := "sweepTwice", unfollowed := true, recurses := true, apart := false, narrowed := true }
def SweepTwiceUptoSaid : Prop := sweepTwiceUptoRow.holds Try.pinned (OpenSpec.upto sweepTwiceSpec)

/-- 'rglaw8.SweepKeeps', WHERE WHAT IT READS IS OF BULK AT MOST 1048576: true; the input reads as it did. -/
def sweepKeepsUptoRow : OpenClaim := { program := "ytnlhnmlojcfljaa", sum := "97dd76cdcc7a7c5ad0ecc0e0d0f0ebb034a141fb94d501c0963a8e30614be5dc", func := "ringfence/rglaw8.SweepKeeps", spec := "sweepKeeps", unfollowed := true, recurses := true, apart := false, narrowed := true }
def SweepKeepsUptoSaid : Prop := sweepKeepsUptoRow.holds Try.pinned (OpenSpec.upto sweepKeepsSpec)

end Rows
end Go.Proofs.Ytnlhnmlojcfljaa
