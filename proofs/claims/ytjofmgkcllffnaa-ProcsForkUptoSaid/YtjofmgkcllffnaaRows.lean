/-
  No cell of these rows narrows 'for every input' (looked for: loops, veiled, ifaces, maps, wideKeys, modest, calm, conditions, laid).
  DERIVED. THE GIVEN ROWS OF THIS SEAT. 4 by the template 'for every input the law returns true; each argument reads behind the call as it read before'; 0 by the template 'total and deterministic' (their statements: YtjofmgkcllffnaaTotals.lean).
  GIVEN WITH THE SEED: the statements are not yours to turn. If you find one false, say at which input.
  Laid BY PROGRAM, IN A SANDBOX (cutbox-rows.mjs): the forced cells as the released guide's own fill.sh prints them over the translation c33e1cd6554645cd… (all of the seat's roots in one cut). By AI agents, Wed Nov 11 2026. No macro, syntax, notation, axiom, sorry.
-/
import Derived.Test.YtjofmgkcllffnaaChecked
import GoSem.Claim
import GoSem.ClaimJoined
import GoSem.ClaimMapViews
import Derived.JoinedTies
import Derived.KernelRfl
namespace Go.Proofs.Ytjofmgkcllffnaa
/- THE CELL 'sum', in the pinned program and in every row, IS THE sha256 OF THE DUMP (.gsa) THAT YtjofmgkcllffnaaProg.lean LOADS. Nothing in Lean hashes anything: it is a label: what it is worth is what the hold of that sum in a sandbox is worth. -/
noncomputable def Try.pinned : Pinned := { name := "ytjofmgkcllffnaa", sum := "c33e1cd6554645cd5bbdbc9d037cccf7309321d3432425bac1e358a67408082f", checked := Try.checked }
namespace Rows
def none {H : Type} : Left H := { results := [], args := [] }

/-- 'rglaw10.ProcsFork': WHATEVER THE INPUT: true; the input reads as it did. -/
def procsForkSpec : ChangeSpec := { name := "procsFork", fn := fun _ => fun
  | [d1, d2] => { results := [.lit (.bool true)], args := [d1, d2] }
  | _ => none }
def procsForkRow : OpenClaim := { program := "ytjofmgkcllffnaa", sum := "c33e1cd6554645cd5bbdbc9d037cccf7309321d3432425bac1e358a67408082f", func := "ringfence/rglaw10.ProcsFork", spec := "procsFork", unfollowed := true, recurses := true, apart := false }
def ProcsForkSaid : Prop := procsForkRow.holds Try.pinned (OpenSpec.ofChange procsForkSpec)

/-- ITS FALSE NEIGHBOUR: 'it returns false'. Refute it at one input. -/
def procsForkWrong : ChangeSpec := { name := "procsFork", fn := fun _ => fun
  | [d1, d2] => { results := [.lit (.bool false)], args := [d1, d2] }
  | _ => none }
def ProcsForkWrongFalsely : Prop := procsForkRow.holds Try.pinned (OpenSpec.ofChange procsForkWrong)

/-- 'rglaw10.ProcsExit': WHATEVER THE INPUT: true; the input reads as it did. -/
def procsExitSpec : ChangeSpec := { name := "procsExit", fn := fun _ => fun
  | [d1, d2, d3] => { results := [.lit (.bool true)], args := [d1, d2, d3] }
  | _ => none }
def procsExitRow : OpenClaim := { program := "ytjofmgkcllffnaa", sum := "c33e1cd6554645cd5bbdbc9d037cccf7309321d3432425bac1e358a67408082f", func := "ringfence/rglaw10.ProcsExit", spec := "procsExit", unfollowed := true, recurses := true, apart := false }
def ProcsExitSaid : Prop := procsExitRow.holds Try.pinned (OpenSpec.ofChange procsExitSpec)

/-- ITS FALSE NEIGHBOUR: 'it returns false'. Refute it at one input. -/
def procsExitWrong : ChangeSpec := { name := "procsExit", fn := fun _ => fun
  | [d1, d2, d3] => { results := [.lit (.bool false)], args := [d1, d2, d3] }
  | _ => none }
def ProcsExitWrongFalsely : Prop := procsExitRow.holds Try.pinned (OpenSpec.ofChange procsExitWrong)

/-- 'rglaw10.ProcsOpened': WHATEVER THE INPUT: true; the input reads as it did. -/
def procsOpenedSpec : ChangeSpec := { name := "procsOpened", fn := fun _ => fun
  | [d1, d2, d3, d4] => { results := [.lit (.bool true)], args := [d1, d2, d3, d4] }
  | _ => none }
def procsOpenedRow : OpenClaim := { program := "ytjofmgkcllffnaa", sum := "c33e1cd6554645cd5bbdbc9d037cccf7309321d3432425bac1e358a67408082f", func := "ringfence/rglaw10.ProcsOpened", spec := "procsOpened", unfollowed := true, recurses := true, apart := false }
def ProcsOpenedSaid : Prop := procsOpenedRow.holds Try.pinned (OpenSpec.ofChange procsOpenedSpec)

/-- ITS FALSE NEIGHBOUR: 'it returns false'. Refute it at one input. -/
def procsOpenedWrong : ChangeSpec := { name := "procsOpened", fn := fun _ => fun
  | [d1, d2, d3, d4] => { results := [.lit (.bool false)], args := [d1, d2, d3, d4] }
  | _ => none }
def ProcsOpenedWrongFalsely : Prop := procsOpenedRow.holds Try.pinned (OpenSpec.ofChange procsOpenedWrong)

/-- 'rglaw8.SweepTells': WHATEVER THE INPUT: true; the input reads as it did. -/
def sweepTellsSpec : ChangeSpec := { name := "sweepTells", fn := fun _ => fun
  | [d] => { results := [.lit (.bool true)], args := [d] }
  | _ => none }
def sweepTellsRow : OpenClaim := { program := "ytjofmgkcllffnaa", sum := "c33e1cd6554645cd5bbdbc9d037cccf7309321d3432425bac1e358a67408082f", func := "ringfence/rglaw8.SweepTells", spec := "sweepTells", unfollowed := true, recurses := true, apart := false }
def SweepTellsSaid : Prop := sweepTellsRow.holds Try.pinned (OpenSpec.ofChange sweepTellsSpec)

/-- ITS FALSE NEIGHBOUR: 'it returns false'. Refute it at one input. -/
def sweepTellsWrong : ChangeSpec := { name := "sweepTells", fn := fun _ => fun
  | [d] => { results := [.lit (.bool false)], args := [d] }
  | _ => none }
def SweepTellsWrongFalsely : Prop := sweepTellsRow.holds Try.pinned (OpenSpec.ofChange sweepTellsWrong)

/- THE SECOND FORM. 'bulk': how many values and letters a reading holds, each counted each time it is reached (what is shared counts as often as it is met; a slice's spare places count too). A statement '..UptoSaid' is the law's where the arguments, and the package variables that the reading takes, are together of bulk at most 1048576: NARROWER than '..Said'. Prove '..Said' where nothing that the law and all that it calls make is longer than what came in: it says more and counts as full. Else prove '..UptoSaid'. A law counts once. -/
mutual
def uptoBulk {H : Type} : DataW H → Nat
  | .lit (.string bytes) => bytes.length + 1
  | .lit _ => 1
  | .nil => 1
  | .ptr d => uptoBulk d + 1
  | .slice elems spare => uptoBulkAll elems + uptoBulkAll spare + 1
  | .agg parts => uptoBulkAll parts + 1
  | .iface _ d => uptoBulk d + 1
  | .map entries => uptoBulkEntries entries + 1
  | .held _ => 1
def uptoBulkAll {H : Type} : List (DataW H) → Nat
  | [] => 0
  | d :: r => uptoBulk d + uptoBulkAll r
def uptoBulkEntries {H : Type} : List (Lit × DataW H) → Nat
  | [] => 0
  | x :: r => uptoBulkEntry x + uptoBulkEntries r
def uptoBulkEntry {H : Type} : Lit × DataW H → Nat
  | (.string bytes, d) => bytes.length + uptoBulk d + 1
  | (_, d) => uptoBulk d + 1
 end
def uptoSmall : (H : Type) → List (DataW H) → Bool := fun _ ds => decide (uptoBulkAll ds ≤ 1048576)
def OpenSpec.upto (s : _root_.Go.ChangeSpec) : _root_.Go.OpenSpec := { _root_.Go.OpenSpec.ofChange s with cond := some uptoSmall }

/-- 'rglaw10.ProcsFork', WHERE WHAT IT READS IS OF BULK AT MOST 1048576: true; the input reads as it did. -/
def procsForkUptoRow : OpenClaim := { program := "ytjofmgkcllffnaa", sum := "c33e1cd6554645cd5bbdbc9d037cccf7309321d3432425bac1e358a67408082f", func := "ringfence/rglaw10.ProcsFork", spec := "procsFork", unfollowed := true, recurses := true, apart := false, narrowed := true }
def ProcsForkUptoSaid : Prop := procsForkUptoRow.holds Try.pinned (OpenSpec.upto procsForkSpec)

/-- 'rglaw10.ProcsExit', WHERE WHAT IT READS IS OF BULK AT MOST 1048576: true; the input reads as it did. -/
def procsExitUptoRow : OpenClaim := { program := "ytjofmgkcllffnaa", sum := "c33e1cd6554645cd5bbdbc9d037cccf7309321d3432425bac1e358a67408082f", func := "ringfence/rglaw10.ProcsExit", spec := "procsExit", unfollowed := true, recurses := true, apart := false, narrowed := true }
def ProcsExitUptoSaid : Prop := procsExitUptoRow.holds Try.pinned (OpenSpec.upto procsExitSpec)

/-- 'rglaw10.ProcsOpened', WHERE WHAT IT READS IS OF BULK AT MOST 1048576: true; the input reads as it did. -/
def procsOpenedUptoRow : OpenClaim := { program := "ytjofmgkcllffnaa", sum := "c33e1cd6554645cd5bbdbc9d037cccf7309321d3432425bac1e358a67408082f", func := "ringfence/rglaw10.ProcsOpened", spec := "procsOpened", unfollowed := true, recurses := true, apart := false, narrowed := true }
def ProcsOpenedUptoSaid : Prop := procsOpenedUptoRow.holds Try.pinned (OpenSpec.upto procsOpenedSpec)

/-- 'rglaw8.SweepTells', WHERE WHAT IT READS IS OF BULK AT MOST 1048576: true; the input reads as it did. -/
def sweepTellsUptoRow : OpenClaim := { program := "ytjofmgkcllffnaa", sum := "c33e1cd6554645cd5bbdbc9d037cccf7309321d3432425bac1e358a67408082f", func := "ringfence/rglaw8.SweepTells", spec := "sweepTells", unfollowed := true, recurses := true, apart := false, narrowed := true }
def SweepTellsUptoSaid : Prop := sweepTellsUptoRow.holds Try.pinned (OpenSpec.upto sweepTellsSpec)

end Rows
end Go.Proofs.Ytjofmgkcllffnaa
