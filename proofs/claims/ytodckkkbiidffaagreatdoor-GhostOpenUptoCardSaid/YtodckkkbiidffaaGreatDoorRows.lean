/-
  NARROWER THAN 'FOR EVERY INPUT', by the rows' own cells (each row's printed sentence says how): TopJail: laid · GhostLess: laid · GhostTurn: laid · GhostAll: laid · GhostOpen: laid.
  DERIVED. THE GIVEN ROWS OF THIS SEAT. 5 by the template 'for every input the law returns true; each argument reads behind the call as it read before'; 0 by the template 'total and deterministic' (their statements: YtodckkkbiidffaaGreatDoorTotals.lean).
  GIVEN WITH THE SEED: the statements are not yours to turn. If you find one false, say at which input.
  Laid BY PROGRAM, IN A SANDBOX (cutbox-rows.mjs): the forced cells as the released guide's own fill.sh prints them over the translation 179d5e043bf85cc7… (all of the seat's roots in one cut). By AI agents, Wed Nov 11 2026. No macro, syntax, notation, axiom, sorry.
-/
import Derived.Test.YtodckkkbiidffaaGreatDoorChecked
import GoSem.PinnedTables
import GoSem.Claim
import GoSem.ClaimJoined
import GoSem.ClaimMapViews
import Derived.JoinedTies
import Derived.KernelRfl
namespace Go.Proofs.YtodckkkbiidffaaGreatDoor
/- THE CELL 'sum', in the pinned program and in every row, IS THE sha256 OF THE DUMP (.gsa) THAT YtodckkkbiidffaaGreatDoorProg.lean LOADS. Nothing in Lean hashes anything: it is a label: what it is worth is what the hold of that sum in a sandbox is worth. -/
noncomputable def Tryz.pinned : Pinned := { name := "ytodckkkbiidffaagreatdoor", sum := "179d5e043bf85cc7856d59c966312e4300a9fc7a16cdb9460b167e92159adc51", checked := Tryz.checked }
namespace Rows
def none {H : Type} : Left H := { results := [], args := [] }

/- WHAT THE LISTED PACKAGE-LEVEL VARIABLES READ AS WHEN THE CALL BEGINS. Each datum BY PROGRAM (the guide's laid-datum.mjs) off the statement by which the dump's own 'gosem.cut.vars' lays the variable. In a bare row this is a premise. The card (YtodckkkbiidffaaGreatDoorCards.lean) ties it to the program's text. -/
def laid_unicode_utf8_acceptRanges {H : Type} : DataW H := .agg [.agg [.lit (.int .u8 128), .lit (.int .u8 191)], .agg [.lit (.int .u8 160), .lit (.int .u8 191)], .agg [.lit (.int .u8 128), .lit (.int .u8 159)], .agg [.lit (.int .u8 144), .lit (.int .u8 191)], .agg [.lit (.int .u8 128), .lit (.int .u8 143)], .agg [.lit (.int .u8 0), .lit (.int .u8 0)], .agg [.lit (.int .u8 0), .lit (.int .u8 0)], .agg [.lit (.int .u8 0), .lit (.int .u8 0)], .agg [.lit (.int .u8 0), .lit (.int .u8 0)], .agg [.lit (.int .u8 0), .lit (.int .u8 0)], .agg [.lit (.int .u8 0), .lit (.int .u8 0)], .agg [.lit (.int .u8 0), .lit (.int .u8 0)], .agg [.lit (.int .u8 0), .lit (.int .u8 0)], .agg [.lit (.int .u8 0), .lit (.int .u8 0)], .agg [.lit (.int .u8 0), .lit (.int .u8 0)], .agg [.lit (.int .u8 0), .lit (.int .u8 0)]]
/-- One of Go's own tables, pinned by name: the form's constant. -/
def laid_unicode_utf8_first : DataW Unit := Go.Pinned.utf8First

/-- 'rgtop.TopJail': WHATEVER THE INPUT: true; the input reads as it did. -/
def topJailSpec : ChangeSpec := { name := "topJail", fn := fun _ => fun
  | [d1, d2, d3] => { results := [.lit (.bool true)], args := [d1, d2, d3] }
  | _ => none }
def topJailRow : OpenClaim := { program := "ytodckkkbiidffaagreatdoor", sum := "179d5e043bf85cc7856d59c966312e4300a9fc7a16cdb9460b167e92159adc51", func := "ringfence/rgtop.TopJail", spec := "topJail", inPlace := ["internal/bytealg.IndexByteString", "internal/bytealg.IndexString", "slices.overlaps[ringfence/api.Entry]", "internal/abi.NoEscape", "internal/bytealg.MakeNoZero"], unfollowed := true, recurses := true, named := ["unicode/utf8.first", "unicode/utf8.acceptRanges", "internal/bytealg.MaxLen"], plainKeys := false, apart := false, laid := [("unicode/utf8.acceptRanges", laid_unicode_utf8_acceptRanges), ("unicode/utf8.first", laid_unicode_utf8_first)] }
def TopJailSaid : Prop := topJailRow.holds Tryz.pinned (OpenSpec.ofChange topJailSpec)

/-- ITS FALSE NEIGHBOUR: 'it returns false'. Refute it at one input. -/
def topJailWrong : ChangeSpec := { name := "topJail", fn := fun _ => fun
  | [d1, d2, d3] => { results := [.lit (.bool false)], args := [d1, d2, d3] }
  | _ => none }
def TopJailWrongFalsely : Prop := topJailRow.holds Tryz.pinned (OpenSpec.ofChange topJailWrong)

/-- 'rglaw12.GhostLess': WHATEVER THE INPUT: true; the input reads as it did. -/
def ghostLessSpec : ChangeSpec := { name := "ghostLess", fn := fun _ => fun
  | [d1, d2] => { results := [.lit (.bool true)], args := [d1, d2] }
  | _ => none }
def ghostLessRow : OpenClaim := { program := "ytodckkkbiidffaagreatdoor", sum := "179d5e043bf85cc7856d59c966312e4300a9fc7a16cdb9460b167e92159adc51", func := "ringfence/rglaw12.GhostLess", spec := "ghostLess", inPlace := ["internal/bytealg.IndexByteString", "internal/bytealg.IndexString", "slices.overlaps[ringfence/api.Entry]", "internal/abi.NoEscape", "internal/bytealg.MakeNoZero"], unfollowed := true, recurses := true, named := ["unicode/utf8.first", "unicode/utf8.acceptRanges", "internal/bytealg.MaxLen"], plainKeys := false, apart := false, laid := [("unicode/utf8.acceptRanges", laid_unicode_utf8_acceptRanges), ("unicode/utf8.first", laid_unicode_utf8_first)] }
def GhostLessSaid : Prop := ghostLessRow.holds Tryz.pinned (OpenSpec.ofChange ghostLessSpec)

/-- ITS FALSE NEIGHBOUR: 'it returns false'. Refute it at one input. -/
def ghostLessWrong : ChangeSpec := { name := "ghostLess", fn := fun _ => fun
  | [d1, d2] => { results := [.lit (.bool false)], args := [d1, d2] }
  | _ => none }
def GhostLessWrongFalsely : Prop := ghostLessRow.holds Tryz.pinned (OpenSpec.ofChange ghostLessWrong)

/-- 'rglaw12.GhostTurn': WHATEVER THE INPUT: true; the input reads as it did. -/
def ghostTurnSpec : ChangeSpec := { name := "ghostTurn", fn := fun _ => fun
  | [d1, d2, d3] => { results := [.lit (.bool true)], args := [d1, d2, d3] }
  | _ => none }
def ghostTurnRow : OpenClaim := { program := "ytodckkkbiidffaagreatdoor", sum := "179d5e043bf85cc7856d59c966312e4300a9fc7a16cdb9460b167e92159adc51", func := "ringfence/rglaw12.GhostTurn", spec := "ghostTurn", inPlace := ["internal/bytealg.IndexByteString", "internal/bytealg.IndexString", "slices.overlaps[ringfence/api.Entry]", "internal/abi.NoEscape", "internal/bytealg.MakeNoZero"], unfollowed := true, recurses := true, named := ["unicode/utf8.first", "unicode/utf8.acceptRanges", "internal/bytealg.MaxLen"], plainKeys := false, apart := false, laid := [("unicode/utf8.acceptRanges", laid_unicode_utf8_acceptRanges), ("unicode/utf8.first", laid_unicode_utf8_first)] }
def GhostTurnSaid : Prop := ghostTurnRow.holds Tryz.pinned (OpenSpec.ofChange ghostTurnSpec)

/-- ITS FALSE NEIGHBOUR: 'it returns false'. Refute it at one input. -/
def ghostTurnWrong : ChangeSpec := { name := "ghostTurn", fn := fun _ => fun
  | [d1, d2, d3] => { results := [.lit (.bool false)], args := [d1, d2, d3] }
  | _ => none }
def GhostTurnWrongFalsely : Prop := ghostTurnRow.holds Tryz.pinned (OpenSpec.ofChange ghostTurnWrong)

/-- 'rglaw12.GhostAll': WHATEVER THE INPUT: true; the input reads as it did. -/
def ghostAllSpec : ChangeSpec := { name := "ghostAll", fn := fun _ => fun
  | [d1, d2] => { results := [.lit (.bool true)], args := [d1, d2] }
  | _ => none }
def ghostAllRow : OpenClaim := { program := "ytodckkkbiidffaagreatdoor", sum := "179d5e043bf85cc7856d59c966312e4300a9fc7a16cdb9460b167e92159adc51", func := "ringfence/rglaw12.GhostAll", spec := "ghostAll", inPlace := ["internal/bytealg.IndexByteString", "internal/bytealg.IndexString", "slices.overlaps[ringfence/api.Entry]", "internal/abi.NoEscape", "internal/bytealg.MakeNoZero"], unfollowed := true, recurses := true, named := ["unicode/utf8.first", "unicode/utf8.acceptRanges", "internal/bytealg.MaxLen"], plainKeys := false, apart := false, laid := [("unicode/utf8.acceptRanges", laid_unicode_utf8_acceptRanges), ("unicode/utf8.first", laid_unicode_utf8_first)] }
def GhostAllSaid : Prop := ghostAllRow.holds Tryz.pinned (OpenSpec.ofChange ghostAllSpec)

/-- ITS FALSE NEIGHBOUR: 'it returns false'. Refute it at one input. -/
def ghostAllWrong : ChangeSpec := { name := "ghostAll", fn := fun _ => fun
  | [d1, d2] => { results := [.lit (.bool false)], args := [d1, d2] }
  | _ => none }
def GhostAllWrongFalsely : Prop := ghostAllRow.holds Tryz.pinned (OpenSpec.ofChange ghostAllWrong)

/-- 'rglaw12.GhostOpen': WHATEVER THE INPUT: true; the input reads as it did. -/
def ghostOpenSpec : ChangeSpec := { name := "ghostOpen", fn := fun _ => fun
  | [d1, d2] => { results := [.lit (.bool true)], args := [d1, d2] }
  | _ => none }
def ghostOpenRow : OpenClaim := { program := "ytodckkkbiidffaagreatdoor", sum := "179d5e043bf85cc7856d59c966312e4300a9fc7a16cdb9460b167e92159adc51", func := "ringfence/rglaw12.GhostOpen", spec := "ghostOpen", inPlace := ["internal/bytealg.IndexByteString", "internal/bytealg.IndexString", "slices.overlaps[ringfence/api.Entry]", "internal/abi.NoEscape", "internal/bytealg.MakeNoZero"], unfollowed := true, recurses := true, named := ["unicode/utf8.first", "unicode/utf8.acceptRanges", "internal/bytealg.MaxLen"], plainKeys := false, apart := false, laid := [("unicode/utf8.acceptRanges", laid_unicode_utf8_acceptRanges), ("unicode/utf8.first", laid_unicode_utf8_first)] }
def GhostOpenSaid : Prop := ghostOpenRow.holds Tryz.pinned (OpenSpec.ofChange ghostOpenSpec)

/-- ITS FALSE NEIGHBOUR: 'it returns false'. Refute it at one input. -/
def ghostOpenWrong : ChangeSpec := { name := "ghostOpen", fn := fun _ => fun
  | [d1, d2] => { results := [.lit (.bool false)], args := [d1, d2] }
  | _ => none }
def GhostOpenWrongFalsely : Prop := ghostOpenRow.holds Tryz.pinned (OpenSpec.ofChange ghostOpenWrong)

/- THE SECOND FORM. 'bulk': how many values and letters a reading holds, each counted each time it is reached (what is shared counts as often as it is met; a slice's spare places count too). A statement '..UptoSaid' is the law's where the arguments, and the package variables that the reading takes, are together of bulk at most 1048576: NARROWER than '..Said'. Prove '..Said' where nothing that the law and all that it calls make is longer than what came in: it says more and counts as full. Else prove '..UptoSaid'. A law counts once. -/
mutual
def uptoBulk {H : Type} : DataW H → Nat
  | .lit (.string bytes) => bytes.length + 1
  | .lit _ => 1
  | .nil => 1
  | .ptr d => uptoBulk d + 1
  | .slice elems spare => uptoBulkAll elems + uptoBulkAll spare + 1
  | .agg parts => uptoBulkAll parts + 1
  | .iface _ d => uptoBulk d + 1
  | .map entries => uptoBulkEntries entries + 1
  | .held _ => 1
def uptoBulkAll {H : Type} : List (DataW H) → Nat
  | [] => 0
  | d :: r => uptoBulk d + uptoBulkAll r
def uptoBulkEntries {H : Type} : List (Lit × DataW H) → Nat
  | [] => 0
  | x :: r => uptoBulkEntry x + uptoBulkEntries r
def uptoBulkEntry {H : Type} : Lit × DataW H → Nat
  | (.string bytes, d) => bytes.length + uptoBulk d + 1
  | (_, d) => uptoBulk d + 1
 end
def uptoSmall : (H : Type) → List (DataW H) → Bool := fun _ ds => decide (uptoBulkAll ds ≤ 1048576)
def OpenSpec.upto (s : _root_.Go.ChangeSpec) : _root_.Go.OpenSpec := { _root_.Go.OpenSpec.ofChange s with cond := some uptoSmall }

/-- 'rgtop.TopJail', WHERE WHAT IT READS IS OF BULK AT MOST 1048576: true; the input reads as it did. -/
def topJailUptoRow : OpenClaim := { program := "ytodckkkbiidffaagreatdoor", sum := "179d5e043bf85cc7856d59c966312e4300a9fc7a16cdb9460b167e92159adc51", func := "ringfence/rgtop.TopJail", spec := "topJail", inPlace := ["internal/bytealg.IndexByteString", "internal/bytealg.IndexString", "slices.overlaps[ringfence/api.Entry]", "internal/abi.NoEscape", "internal/bytealg.MakeNoZero"], unfollowed := true, recurses := true, named := ["unicode/utf8.first", "unicode/utf8.acceptRanges", "internal/bytealg.MaxLen"], plainKeys := false, apart := false, laid := [("unicode/utf8.acceptRanges", laid_unicode_utf8_acceptRanges), ("unicode/utf8.first", laid_unicode_utf8_first)], narrowed := true }
def TopJailUptoSaid : Prop := topJailUptoRow.holds Tryz.pinned (OpenSpec.upto topJailSpec)

/-- 'rglaw12.GhostLess', WHERE WHAT IT READS IS OF BULK AT MOST 1048576: true; the input reads as it did. -/
def ghostLessUptoRow : OpenClaim := { program := "ytodckkkbiidffaagreatdoor", sum := "179d5e043bf85cc7856d59c966312e4300a9fc7a16cdb9460b167e92159adc51", func := "ringfence/rglaw12.GhostLess", spec := "ghostLess", inPlace := ["internal/bytealg.IndexByteString", "internal/bytealg.IndexString", "slices.overlaps[ringfence/api.Entry]", "internal/abi.NoEscape", "internal/bytealg.MakeNoZero"], unfollowed := true, recurses := true, named := ["unicode/utf8.first", "unicode/utf8.acceptRanges", "internal/bytealg.MaxLen"], plainKeys := false, apart := false, laid := [("unicode/utf8.acceptRanges", laid_unicode_utf8_acceptRanges), ("unicode/utf8.first", laid_unicode_utf8_first)], narrowed := true }
def GhostLessUptoSaid : Prop := ghostLessUptoRow.holds Tryz.pinned (OpenSpec.upto ghostLessSpec)

/-- 'rglaw12.GhostTurn', WHERE WHAT IT READS IS OF BULK AT MOST 1048576: true; the input reads as it did. -/
def ghostTurnUptoRow : OpenClaim := { program := "ytodckkkbiidffaagreatdoor", sum := "179d5e043bf85cc7856d59c966312e4300a9fc7a16cdb9460b167e92159adc51", func := "ringfence/rglaw12.GhostTurn", spec := "ghostTurn", inPlace := ["internal/bytealg.IndexByteString", "internal/bytealg.IndexString", "slices.overlaps[ringfence/api.Entry]", "internal/abi.NoEscape", "internal/bytealg.MakeNoZero"], unfollowed := true, recurses := true, named := ["unicode/utf8.first", "unicode/utf8.acceptRanges", "internal/bytealg.MaxLen"], plainKeys := false, apart := false, laid := [("unicode/utf8.acceptRanges", laid_unicode_utf8_acceptRanges), ("unicode/utf8.first", laid_unicode_utf8_first)], narrowed := true }
def GhostTurnUptoSaid : Prop := ghostTurnUptoRow.holds Tryz.pinned (OpenSpec.upto ghostTurnSpec)

/-- 'rglaw12.GhostAll', WHERE WHAT IT READS IS OF BULK AT MOST 1048576: true; the input reads as it did. -/
def ghostAllUptoRow : OpenClaim := { program := "ytodckkkbiidffaagreatdoor", sum := "179d5e043bf85cc7856d59c966312e4300a9fc7a16cdb9460b167e92159adc51", func := "ringfence/rglaw12.GhostAll", spec := "ghostAll", inPlace := ["internal/bytealg.IndexByteString", "internal/bytealg.IndexString", "slices.overlaps[ringfence/api.Entry]", "internal/abi.NoEscape", "internal/bytealg.MakeNoZero"], unfollowed := true, recurses := true, named := ["unicode/utf8.first", "unicode/utf8.acceptRanges", "internal/bytealg.MaxLen"], plainKeys := false, apart := false, laid := [("unicode/utf8.acceptRanges", laid_unicode_utf8_acceptRanges), ("unicode/utf8.first", laid_unicode_utf8_first)], narrowed := true }
def GhostAllUptoSaid : Prop := ghostAllUptoRow.holds Tryz.pinned (OpenSpec.upto ghostAllSpec)

/-- 'rglaw12.GhostOpen', WHERE WHAT IT READS IS OF BULK AT MOST 1048576: true; the input reads as it did. -/
def ghostOpenUptoRow : OpenClaim := { program := "ytodckkkbiidffaagreatdoor", sum := "179d5e043bf85cc7856d59c966312e4300a9fc7a16cdb9460b167e92159adc51", func := "ringfence/rglaw12.GhostOpen", spec := "ghostOpen", inPlace := ["internal/bytealg.IndexByteString", "internal/bytealg.IndexString", "slices.overlaps[ringfence/api.Entry]", "internal/abi.NoEscape", "internal/bytealg.MakeNoZero"], unfollowed := true, recurses := true, named := ["unicode/utf8.first", "unicode/utf8.acceptRanges", "internal/bytealg.MaxLen"], plainKeys := false, apart := false, laid := [("unicode/utf8.acceptRanges", laid_unicode_utf8_acceptRanges), ("unicode/utf8.first", laid_unicode_utf8_first)], narrowed := true }
def GhostOpenUptoSaid : Prop := ghostOpenUptoRow.holds Tryz.pinned (OpenSpec.upto ghostOpenSpec)

end Rows
end Go.Proofs.YtodckkkbiidffaaGreatDoor
