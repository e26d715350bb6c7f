/-
  NARROWER THAN 'FOR EVERY INPUT', by the rows' own cells (each row's printed sentence says how): PathTells: laid · PathTurns: laid · PathDepth: laid · RightsTells: laid · RightsOrder: laid · RightsTurns: laid.
  DERIVED. THE GIVEN ROWS OF THIS SEAT. 6 by the template 'for every input the law returns true; each argument reads behind the call as it read before'; 0 by the template 'total and deterministic' (their statements: YtoohefnephhmbaaDoorTotals.lean).
  GIVEN WITH THE SEED: the statements are not yours to turn. If you find one false, say at which input.
  Laid BY PROGRAM, IN A SANDBOX (cutbox-rows.mjs): the forced cells as the released guide's own fill.sh prints them over the translation 2a6c16ee51cec6d1… (all of the seat's roots in one cut). By AI agents, Wed Nov 11 2026. No macro, syntax, notation, axiom, sorry.
-/
import Derived.Test.YtoohefnephhmbaaDoorChecked
import GoSem.PinnedTables
import GoSem.Claim
import GoSem.ClaimJoined
import GoSem.ClaimMapViews
import Derived.JoinedTies
import Derived.KernelRfl
namespace Go.Proofs.YtoohefnephhmbaaDoor
/- THE CELL 'sum', in the pinned program and in every row, IS THE sha256 OF THE DUMP (.gsa) THAT YtoohefnephhmbaaDoorProg.lean LOADS. Nothing in Lean hashes anything: it is a label: what it is worth is what the hold of that sum in a sandbox is worth. -/
noncomputable def Tryd.pinned : Pinned := { name := "ytoohefnephhmbaadoor", sum := "2a6c16ee51cec6d167b046b4c207f53d5437425ff37baaf26b3cb75e5283e692", checked := Tryd.checked }
namespace Rows
def none {H : Type} : Left H := { results := [], args := [] }

/- WHAT THE LISTED PACKAGE-LEVEL VARIABLES READ AS WHEN THE CALL BEGINS. Each datum BY PROGRAM (the guide's laid-datum.mjs) off the statement by which the dump's own 'gosem.cut.vars' lays the variable. In a bare row this is a premise. The card (YtoohefnephhmbaaDoorCards.lean) ties it to the program's text. -/
def laid_unicode_utf8_acceptRanges {H : Type} : DataW H := .agg [.agg [.lit (.int .u8 128), .lit (.int .u8 191)], .agg [.lit (.int .u8 160), .lit (.int .u8 191)], .agg [.lit (.int .u8 128), .lit (.int .u8 159)], .agg [.lit (.int .u8 144), .lit (.int .u8 191)], .agg [.lit (.int .u8 128), .lit (.int .u8 143)], .agg [.lit (.int .u8 0), .lit (.int .u8 0)], .agg [.lit (.int .u8 0), .lit (.int .u8 0)], .agg [.lit (.int .u8 0), .lit (.int .u8 0)], .agg [.lit (.int .u8 0), .lit (.int .u8 0)], .agg [.lit (.int .u8 0), .lit (.int .u8 0)], .agg [.lit (.int .u8 0), .lit (.int .u8 0)], .agg [.lit (.int .u8 0), .lit (.int .u8 0)], .agg [.lit (.int .u8 0), .lit (.int .u8 0)], .agg [.lit (.int .u8 0), .lit (.int .u8 0)], .agg [.lit (.int .u8 0), .lit (.int .u8 0)], .agg [.lit (.int .u8 0), .lit (.int .u8 0)]]
/-- One of Go's own tables, pinned by name: the form's constant. -/
def laid_unicode_utf8_first : DataW Unit := Go.Pinned.utf8First

/-- 'rglaw4.PathTells': WHATEVER THE INPUT: true; the input reads as it did. -/
def pathTellsSpec : ChangeSpec := { name := "pathTells", fn := fun _ => fun
  | [d1, d2, d3] => { results := [.lit (.bool true)], args := [d1, d2, d3] }
  | _ => none }
def pathTellsRow : OpenClaim := { program := "ytoohefnephhmbaadoor", sum := "2a6c16ee51cec6d167b046b4c207f53d5437425ff37baaf26b3cb75e5283e692", func := "ringfence/rglaw4.PathTells", spec := "pathTells", inPlace := ["internal/bytealg.IndexByteString", "internal/bytealg.IndexString", "internal/abi.NoEscape", "internal/bytealg.MakeNoZero"], unfollowed := true, recurses := true, named := ["unicode/utf8.first", "unicode/utf8.acceptRanges", "internal/bytealg.MaxLen"], apart := false, laid := [("unicode/utf8.acceptRanges", laid_unicode_utf8_acceptRanges), ("unicode/utf8.first", laid_unicode_utf8_first)] }
def PathTellsSaid : Prop := pathTellsRow.holds Tryd.pinned (OpenSpec.ofChange pathTellsSpec)

/-- ITS FALSE NEIGHBOUR: 'it returns false'. Refute it at one input. -/
def pathTellsWrong : ChangeSpec := { name := "pathTells", fn := fun _ => fun
  | [d1, d2, d3] => { results := [.lit (.bool false)], args := [d1, d2, d3] }
  | _ => none }
def PathTellsWrongFalsely : Prop := pathTellsRow.holds Tryd.pinned (OpenSpec.ofChange pathTellsWrong)

/-- 'rglaw4.PathTurns': WHATEVER THE INPUT: true; the input reads as it did. -/
def pathTurnsSpec : ChangeSpec := { name := "pathTurns", fn := fun _ => fun
  | [d] => { results := [.lit (.bool true)], args := [d] }
  | _ => none }
def pathTurnsRow : OpenClaim := { program := "ytoohefnephhmbaadoor", sum := "2a6c16ee51cec6d167b046b4c207f53d5437425ff37baaf26b3cb75e5283e692", func := "ringfence/rglaw4.PathTurns", spec := "pathTurns", inPlace := ["internal/bytealg.IndexByteString", "internal/bytealg.IndexString", "internal/abi.NoEscape", "internal/bytealg.MakeNoZero"], unfollowed := true, recurses := true, named := ["unicode/utf8.first", "unicode/utf8.acceptRanges", "internal/bytealg.MaxLen"], apart := false, laid := [("unicode/utf8.acceptRanges", laid_unicode_utf8_acceptRanges), ("unicode/utf8.first", laid_unicode_utf8_first)] }
def PathTurnsSaid : Prop := pathTurnsRow.holds Tryd.pinned (OpenSpec.ofChange pathTurnsSpec)

/-- ITS FALSE NEIGHBOUR: 'it returns false'. Refute it at one input. -/
def pathTurnsWrong : ChangeSpec := { name := "pathTurns", fn := fun _ => fun
  | [d] => { results := [.lit (.bool false)], args := [d] }
  | _ => none }
def PathTurnsWrongFalsely : Prop := pathTurnsRow.holds Tryd.pinned (OpenSpec.ofChange pathTurnsWrong)

/-- 'rglaw4.PathDepth': WHATEVER THE INPUT: true; the input reads as it did. -/
def pathDepthSpec : ChangeSpec := { name := "pathDepth", fn := fun _ => fun
  | [d] => { results := [.lit (.bool true)], args := [d] }
  | _ => none }
def pathDepthRow : OpenClaim := { program := "ytoohefnephhmbaadoor", sum := "2a6c16ee51cec6d167b046b4c207f53d5437425ff37baaf26b3cb75e5283e692", func := "ringfence/rglaw4.PathDepth", spec := "pathDepth", inPlace := ["internal/bytealg.IndexByteString", "internal/bytealg.IndexString", "internal/abi.NoEscape", "internal/bytealg.MakeNoZero"], unfollowed := true, recurses := true, named := ["unicode/utf8.first", "unicode/utf8.acceptRanges", "internal/bytealg.MaxLen"], apart := false, laid := [("unicode/utf8.acceptRanges", laid_unicode_utf8_acceptRanges), ("unicode/utf8.first", laid_unicode_utf8_first)] }
def PathDepthSaid : Prop := pathDepthRow.holds Tryd.pinned (OpenSpec.ofChange pathDepthSpec)

/-- ITS FALSE NEIGHBOUR: 'it returns false'. Refute it at one input. -/
def pathDepthWrong : ChangeSpec := { name := "pathDepth", fn := fun _ => fun
  | [d] => { results := [.lit (.bool false)], args := [d] }
  | _ => none }
def PathDepthWrongFalsely : Prop := pathDepthRow.holds Tryd.pinned (OpenSpec.ofChange pathDepthWrong)

/-- 'rglaw1.RightsTells': WHATEVER THE INPUT: true; the input reads as it did. -/
def rightsTellsSpec : ChangeSpec := { name := "rightsTells", fn := fun _ => fun
  | [d1, d2, d3, d4] => { results := [.lit (.bool true)], args := [d1, d2, d3, d4] }
  | _ => none }
def rightsTellsRow : OpenClaim := { program := "ytoohefnephhmbaadoor", sum := "2a6c16ee51cec6d167b046b4c207f53d5437425ff37baaf26b3cb75e5283e692", func := "ringfence/rglaw1.RightsTells", spec := "rightsTells", inPlace := ["internal/bytealg.IndexByteString", "internal/bytealg.IndexString", "internal/abi.NoEscape", "internal/bytealg.MakeNoZero"], unfollowed := true, recurses := true, named := ["unicode/utf8.first", "unicode/utf8.acceptRanges", "internal/bytealg.MaxLen"], apart := false, laid := [("unicode/utf8.acceptRanges", laid_unicode_utf8_acceptRanges), ("unicode/utf8.first", laid_unicode_utf8_first)] }
def RightsTellsSaid : Prop := rightsTellsRow.holds Tryd.pinned (OpenSpec.ofChange rightsTellsSpec)

/-- ITS FALSE NEIGHBOUR: 'it returns false'. Refute it at one input. -/
def rightsTellsWrong : ChangeSpec := { name := "rightsTells", fn := fun _ => fun
  | [d1, d2, d3, d4] => { results := [.lit (.bool false)], args := [d1, d2, d3, d4] }
  | _ => none }
def RightsTellsWrongFalsely : Prop := rightsTellsRow.holds Tryd.pinned (OpenSpec.ofChange rightsTellsWrong)

/-- 'rglaw1.RightsOrder': WHATEVER THE INPUT: true; the input reads as it did. -/
def rightsOrderSpec : ChangeSpec := { name := "rightsOrder", fn := fun _ => fun
  | [d1, d2, d3] => { results := [.lit (.bool true)], args := [d1, d2, d3] }
  | _ => none }
def rightsOrderRow : OpenClaim := { program := "ytoohefnephhmbaadoor", sum := "2a6c16ee51cec6d167b046b4c207f53d5437425ff37baaf26b3cb75e5283e692", func := "ringfence/rglaw1.RightsOrder", spec := "rightsOrder", inPlace := ["internal/bytealg.IndexByteString", "internal/bytealg.IndexString", "internal/abi.NoEscape", "internal/bytealg.MakeNoZero"], unfollowed := true, recurses := true, named := ["unicode/utf8.first", "unicode/utf8.acceptRanges", "internal/bytealg.MaxLen"], apart := false, laid := [("unicode/utf8.acceptRanges", laid_unicode_utf8_acceptRanges), ("unicode/utf8.first", laid_unicode_utf8_first)] }
def RightsOrderSaid : Prop := rightsOrderRow.holds Tryd.pinned (OpenSpec.ofChange rightsOrderSpec)

/-- ITS FALSE NEIGHBOUR: 'it returns false'. Refute it at one input. -/
def rightsOrderWrong : ChangeSpec := { name := "rightsOrder", fn := fun _ => fun
  | [d1, d2, d3] => { results := [.lit (.bool false)], args := [d1, d2, d3] }
  | _ => none }
def RightsOrderWrongFalsely : Prop := rightsOrderRow.holds Tryd.pinned (OpenSpec.ofChange rightsOrderWrong)

/-- 'rglaw1.RightsTurns': WHATEVER THE INPUT: true; the input reads as it did. -/
def rightsTurnsSpec : ChangeSpec := { name := "rightsTurns", fn := fun _ => fun
  | [d1, d2, d3] => { results := [.lit (.bool true)], args := [d1, d2, d3] }
  | _ => none }
def rightsTurnsRow : OpenClaim := { program := "ytoohefnephhmbaadoor", sum := "2a6c16ee51cec6d167b046b4c207f53d5437425ff37baaf26b3cb75e5283e692", func := "ringfence/rglaw1.RightsTurns", spec := "rightsTurns", inPlace := ["internal/bytealg.IndexByteString", "internal/bytealg.IndexString", "internal/abi.NoEscape", "internal/bytealg.MakeNoZero"], unfollowed := true, recurses := true, named := ["unicode/utf8.first", "unicode/utf8.acceptRanges", "internal/bytealg.MaxLen"], apart := false, laid := [("unicode/utf8.acceptRanges", laid_unicode_utf8_acceptRanges), ("unicode/utf8.first", laid_unicode_utf8_first)] }
def RightsTurnsSaid : Prop := rightsTurnsRow.holds Tryd.pinned (OpenSpec.ofChange rightsTurnsSpec)

/-- ITS FALSE NEIGHBOUR: 'it returns false'. Refute it at one input. -/
def rightsTurnsWrong : ChangeSpec := { name := "rightsTurns", fn := fun _ => fun
  | [d1, d2, d3] => { results := [.lit (.bool false)], args := [d1, d2, d3] }
  | _ => none }
def RightsTurnsWrongFalsely : Prop := rightsTurnsRow.holds Tryd.pinned (OpenSpec.ofChange rightsTurnsWrong)

/- THE SECOND FORM. 'bulk': how many values and letters a reading holds, each counted each time it is reached (what is shared counts as often as it is met; a slice's spare places count too). A statement '..UptoSaid' is the law's where the arguments, and the package variables that the reading takes, are together of bulk at most 1048576: NARROWER than '..Said'. Prove '..Said' where nothing that the law and all that it calls make is longer than what came in: it says more and counts as full. Else prove '..UptoSaid'. A law counts once. -/
mutual
def uptoBulk {H : Type} : DataW H → Nat
  | .lit (.string bytes) => bytes.length + 1
  | .lit _ => 1
  | .nil => 1
  | .ptr d => uptoBulk d + 1
  | .slice elems spare => uptoBulkAll elems + uptoBulkAll spare + 1
  | .agg parts => uptoBulkAll parts + 1
  | .iface _ d => uptoBulk d + 1
  | .map entries => uptoBulkEntries entries + 1
  | .held _ => 1
def uptoBulkAll {H : Type} : List (DataW H) → Nat
  | [] => 0
  | d :: r => uptoBulk d + uptoBulkAll r
def uptoBulkEntries {H : Type} : List (Lit × DataW H) → Nat
  | [] => 0
  | x :: r => uptoBulkEntry x + uptoBulkEntries r
def uptoBulkEntry {H : Type} : Lit × DataW H → Nat
  | (.string bytes, d) => bytes.length + uptoBulk d + 1
  | (_, d) => uptoBulk d + 1
 end
def uptoSmall : (H : Type) → List (DataW H) → Bool := fun _ ds => decide (uptoBulkAll ds ≤ 1048576)
def OpenSpec.upto (s : _root_.Go.ChangeSpec) : _root_.Go.OpenSpec := { _root_.Go.OpenSpec.ofChange s with cond := some uptoSmall }

/-- 'rglaw4.PathTells', WHERE WHAT IT READS IS OF BULK AT MOST 1048576: true; the input reads as it did. -/
def pathTellsUptoRow : OpenClaim := { program := "ytoohefnephhmbaadoor", sum := "2a6c16ee51cec6d167b046b4c207f53d5437425ff37baaf26b3cb75e5283e692", func := "ringfence/rglaw4.PathTells", spec := "pathTells", inPlace := ["internal/bytealg.IndexByteString", "internal/bytealg.IndexString", "internal/abi.NoEscape", "internal/bytealg.MakeNoZero"], unfollowed := true, recurses := true, named := ["unicode/utf8.first", "unicode/utf8.acceptRanges", "internal/bytealg.MaxLen"], apart := false, laid := [("unicode/utf8.acceptRanges", laid_unicode_utf8_acceptRanges), ("unicode/utf8.first", laid_unicode_utf8_first)], narrowed := true }
def PathTellsUptoSaid : Prop := pathTellsUptoRow.holds Tryd.pinned (OpenSpec.upto pathTellsSpec)

/-- 'rglaw4.PathTurns', WHERE WHAT IT READS IS OF BULK AT MOST 1048576: true; the input reads as it did. -/
def pathTurnsUptoRow : OpenClaim := { program := "ytoohefnephhmbaadoor", sum := "2a6c16ee51cec6d167b046b4c207f53d5437425ff37baaf26b3cb75e5283e692", func := "ringfence/rglaw4.PathTurns", spec := "pathTurns", inPlace := ["internal/bytealg.IndexByteString", "internal/bytealg.IndexString", "internal/abi.NoEscape", "internal/bytealg.MakeNoZero"], unfollowed := true, recurses := true, named := ["unicode/utf8.first", "unicode/utf8.acceptRanges", "internal/bytealg.MaxLen"], apart := false, laid := [("unicode/utf8.acceptRanges", laid_unicode_utf8_acceptRanges), ("unicode/utf8.first", laid_unicode_utf8_first)], narrowed := true }
def PathTurnsUptoSaid : Prop := pathTurnsUptoRow.holds Tryd.pinned (OpenSpec.upto pathTurnsSpec)

/-- 'rglaw4.PathDepth', WHERE WHAT IT READS IS OF BULK AT MOST 1048576: true; the input reads as it did. -/
def pathDepthUptoRow : OpenClaim := { program := "ytoohefnephhmbaadoor", sum := "2a6c16ee51cec6d167b046b4c207f53d5437425ff37baaf26b3cb75e5283e692", func := "ringfence/rglaw4.PathDepth", spec := "pathDepth", inPlace := ["internal/bytealg.IndexByteString", "internal/bytealg.IndexString", "internal/abi.NoEscape", "internal/bytealg.MakeNoZero"], unfollowed := true, recurses := true, named := ["unicode/utf8.first", "unicode/utf8.acceptRanges", "internal/bytealg.MaxLen"], apart := false, laid := [("unicode/utf8.acceptRanges", laid_unicode_utf8_acceptRanges), ("unicode/utf8.first", laid_unicode_utf8_first)], narrowed := true }
def PathDepthUptoSaid : Prop := pathDepthUptoRow.holds Tryd.pinned (OpenSpec.upto pathDepthSpec)

/-- 'rglaw1.RightsTells', WHERE WHAT IT READS IS OF BULK AT MOST 1048576: true; the input reads as it did. -/
def rightsTellsUptoRow : OpenClaim := { program := "ytoohefnephhmbaadoor", sum := "2a6c16ee51cec6d167b046b4c207f53d5437425ff37baaf26b3cb75e5283e692", func := "ringfence/rglaw1.RightsTells", spec := "rightsTells", inPlace := ["internal/bytealg.IndexByteString", "internal/bytealg.IndexString", "internal/abi.NoEscape", "internal/bytealg.MakeNoZero"], unfollowed := true, recurses := true, named := ["unicode/utf8.first", "unicode/utf8.acceptRanges", "internal/bytealg.MaxLen"], apart := false, laid := [("unicode/utf8.acceptRanges", laid_unicode_utf8_acceptRanges), ("unicode/utf8.first", laid_unicode_utf8_first)], narrowed := true }
def RightsTellsUptoSaid : Prop := rightsTellsUptoRow.holds Tryd.pinned (OpenSpec.upto rightsTellsSpec)

/-- 'rglaw1.RightsOrder', WHERE WHAT IT READS IS OF BULK AT MOST 1048576: true; the input reads as it did. -/
def rightsOrderUptoRow : OpenClaim := { program := "ytoohefnephhmbaadoor", sum := "2a6c16ee51cec6d167b046b4c207f53d5437425ff37baaf26b3cb75e5283e692", func := "ringfence/rglaw1.RightsOrder", spec := "rightsOrder", inPlace := ["internal/bytealg.IndexByteString", "internal/bytealg.IndexString", "internal/abi.NoEscape", "internal/bytealg.MakeNoZero"], unfollowed := true, recurses := true, named := ["unicode/utf8.first", "unicode/utf8.acceptRanges", "internal/bytealg.MaxLen"], apart := false, laid := [("unicode/utf8.acceptRanges", laid_unicode_utf8_acceptRanges), ("unicode/utf8.first", laid_unicode_utf8_first)], narrowed := true }
def RightsOrderUptoSaid : Prop := rightsOrderUptoRow.holds Tryd.pinned (OpenSpec.upto rightsOrderSpec)

/-- 'rglaw1.RightsTurns', WHERE WHAT IT READS IS OF BULK AT MOST 1048576: true; the input reads as it did. -/
def rightsTurnsUptoRow : OpenClaim := { program := "ytoohefnephhmbaadoor", sum := "2a6c16ee51cec6d167b046b4c207f53d5437425ff37baaf26b3cb75e5283e692", func := "ringfence/rglaw1.RightsTurns", spec := "rightsTurns", inPlace := ["internal/bytealg.IndexByteString", "internal/bytealg.IndexString", "internal/abi.NoEscape", "internal/bytealg.MakeNoZero"], unfollowed := true, recurses := true, named := ["unicode/utf8.first", "unicode/utf8.acceptRanges", "internal/bytealg.MaxLen"], apart := false, laid := [("unicode/utf8.acceptRanges", laid_unicode_utf8_acceptRanges), ("unicode/utf8.first", laid_unicode_utf8_first)], narrowed := true }
def RightsTurnsUptoSaid : Prop := rightsTurnsUptoRow.holds Tryd.pinned (OpenSpec.upto rightsTurnsSpec)

end Rows
end Go.Proofs.YtoohefnephhmbaaDoor
