/-
  NARROWER THAN 'FOR EVERY INPUT', by the rows' own cells (each row's printed sentence says how): TopJail: laid · TopShare: laid · TopPass: laid · TopGone: laid · TopOrphan: laid.
  DERIVED. THE GIVEN ROWS OF THIS SEAT. 5 by the template 'for every input the law returns true; each argument reads behind the call as it read before'; 0 by the template 'total and deterministic' (their statements: YthagjdhjmamakaaGreatDoorTotals.lean).
  GIVEN WITH THE SEED: the statements are not yours to turn. If you find one false, say at which input.
  Laid BY PROGRAM, IN A SANDBOX (cutbox-rows.mjs): the forced cells as the released guide's own fill.sh prints them over the translation c90b7ba762023ad6… (all of the seat's roots in one cut). By AI agents, Wed Nov 11 2026. No macro, syntax, notation, axiom, sorry.
-/
import Derived.Test.YthagjdhjmamakaaGreatDoorChecked
import GoSem.PinnedTables
import GoSem.Claim
import GoSem.ClaimJoined
import GoSem.ClaimMapViews
import Derived.JoinedTies
import Derived.KernelRfl
namespace Go.Proofs.YthagjdhjmamakaaGreatDoor
/- THE CELL 'sum', in the pinned program and in every row, IS THE sha256 OF THE DUMP (.gsa) THAT YthagjdhjmamakaaGreatDoorProg.lean LOADS. Nothing in Lean hashes anything: it is a label: what it is worth is what the hold of that sum in a sandbox is worth. -/
noncomputable def Tryz.pinned : Pinned := { name := "ythagjdhjmamakaagreatdoor", sum := "c90b7ba762023ad67f20f2bd9040d960b878136598a5f2620321cf7c845b03e3", checked := Tryz.checked }
namespace Rows
def none {H : Type} : Left H := { results := [], args := [] }

/- WHAT THE LISTED PACKAGE-LEVEL VARIABLES READ AS WHEN THE CALL BEGINS. Each datum BY PROGRAM (the guide's laid-datum.mjs) off the statement by which the dump's own 'gosem.cut.vars' lays the variable. In a bare row this is a premise. The card (YthagjdhjmamakaaGreatDoorCards.lean) ties it to the program's text. -/
def laid_unicode_utf8_acceptRanges {H : Type} : DataW H := .agg [.agg [.lit (.int .u8 128), .lit (.int .u8 191)], .agg [.lit (.int .u8 160), .lit (.int .u8 191)], .agg [.lit (.int .u8 128), .lit (.int .u8 159)], .agg [.lit (.int .u8 144), .lit (.int .u8 191)], .agg [.lit (.int .u8 128), .lit (.int .u8 143)], .agg [.lit (.int .u8 0), .lit (.int .u8 0)], .agg [.lit (.int .u8 0), .lit (.int .u8 0)], .agg [.lit (.int .u8 0), .lit (.int .u8 0)], .agg [.lit (.int .u8 0), .lit (.int .u8 0)], .agg [.lit (.int .u8 0), .lit (.int .u8 0)], .agg [.lit (.int .u8 0), .lit (.int .u8 0)], .agg [.lit (.int .u8 0), .lit (.int .u8 0)], .agg [.lit (.int .u8 0), .lit (.int .u8 0)], .agg [.lit (.int .u8 0), .lit (.int .u8 0)], .agg [.lit (.int .u8 0), .lit (.int .u8 0)], .agg [.lit (.int .u8 0), .lit (.int .u8 0)]]
/-- One of Go's own tables, pinned by name: the form's constant. -/
def laid_unicode_utf8_first : DataW Unit := Go.Pinned.utf8First

/-- 'rgtop.TopJail': WHATEVER THE INPUT: true; the input reads as it did. -/
def topJailSpec : ChangeSpec := { name := "topJail", fn := fun _ => fun
  | [d1, d2, d3] => { results := [.lit (.bool true)], args := [d1, d2, d3] }
  | _ => none }
def topJailRow : OpenClaim := { program := "ythagjdhjmamakaagreatdoor", sum := "c90b7ba762023ad67f20f2bd9040d960b878136598a5f2620321cf7c845b03e3", func := "ringfence/rgtop.TopJail", spec := "topJail", inPlace := ["internal/bytealg.IndexByteString", "internal/bytealg.IndexString", "slices.overlaps[ringfence/api.Entry]", "internal/abi.NoEscape", "internal/bytealg.MakeNoZero"], unfollowed := true, recurses := true, named := ["unicode/utf8.first", "unicode/utf8.acceptRanges", "internal/bytealg.MaxLen"], apart := false, laid := [("unicode/utf8.acceptRanges", laid_unicode_utf8_acceptRanges), ("unicode/utf8.first", laid_unicode_utf8_first)] }
def TopJailSaid : Prop := topJailRow.holds Tryz.pinned (OpenSpec.ofChange topJailSpec)

/-- ITS FALSE NEIGHBOUR: 'it returns false'. Refute it at one input. -/
def topJailWrong : ChangeSpec := { name := "topJail", fn := fun _ => fun
  | [d1, d2, d3] => { results := [.lit (.bool false)], args := [d1, d2, d3] }
  | _ => none }
def TopJailWrongFalsely : Prop := topJailRow.holds Tryz.pinned (OpenSpec.ofChange topJailWrong)

/-- 'rgtop.TopShare': WHATEVER THE INPUT: true; the input reads as it did. -/
def topShareSpec : ChangeSpec := { name := "topShare", fn := fun _ => fun
  | [d1, d2, d3] => { results := [.lit (.bool true)], args := [d1, d2, d3] }
  | _ => none }
def topShareRow : OpenClaim := { program := "ythagjdhjmamakaagreatdoor", sum := "c90b7ba762023ad67f20f2bd9040d960b878136598a5f2620321cf7c845b03e3", func := "ringfence/rgtop.TopShare", spec := "topShare", inPlace := ["internal/bytealg.IndexByteString", "internal/bytealg.IndexString", "slices.overlaps[ringfence/api.Entry]", "internal/abi.NoEscape", "internal/bytealg.MakeNoZero"], unfollowed := true, recurses := true, named := ["unicode/utf8.first", "unicode/utf8.acceptRanges", "internal/bytealg.MaxLen"], apart := false, laid := [("unicode/utf8.acceptRanges", laid_unicode_utf8_acceptRanges), ("unicode/utf8.first", laid_unicode_utf8_first)] }
def TopShareSaid : Prop := topShareRow.holds Tryz.pinned (OpenSpec.ofChange topShareSpec)

/-- ITS FALSE NEIGHBOUR: 'it returns false'. Refute it at one input. -/
def topShareWrong : ChangeSpec := { name := "topShare", fn := fun _ => fun
  | [d1, d2, d3] => { results := [.lit (.bool false)], args := [d1, d2, d3] }
  | _ => none }
def TopShareWrongFalsely : Prop := topShareRow.holds Tryz.pinned (OpenSpec.ofChange topShareWrong)

/-- 'rgtop.TopPass': WHATEVER THE INPUT: true; the input reads as it did. -/
def topPassSpec : ChangeSpec := { name := "topPass", fn := fun _ => fun
  | [d1, d2] => { results := [.lit (.bool true)], args := [d1, d2] }
  | _ => none }
def topPassRow : OpenClaim := { program := "ythagjdhjmamakaagreatdoor", sum := "c90b7ba762023ad67f20f2bd9040d960b878136598a5f2620321cf7c845b03e3", func := "ringfence/rgtop.TopPass", spec := "topPass", inPlace := ["internal/bytealg.IndexByteString", "internal/bytealg.IndexString", "slices.overlaps[ringfence/api.Entry]", "internal/abi.NoEscape", "internal/bytealg.MakeNoZero"], unfollowed := true, recurses := true, named := ["unicode/utf8.first", "unicode/utf8.acceptRanges", "internal/bytealg.MaxLen"], apart := false, laid := [("unicode/utf8.acceptRanges", laid_unicode_utf8_acceptRanges), ("unicode/utf8.first", laid_unicode_utf8_first)] }
def TopPassSaid : Prop := topPassRow.holds Tryz.pinned (OpenSpec.ofChange topPassSpec)

/-- ITS FALSE NEIGHBOUR: 'it returns false'. Refute it at one input. -/
def topPassWrong : ChangeSpec := { name := "topPass", fn := fun _ => fun
  | [d1, d2] => { results := [.lit (.bool false)], args := [d1, d2] }
  | _ => none }
def TopPassWrongFalsely : Prop := topPassRow.holds Tryz.pinned (OpenSpec.ofChange topPassWrong)

/-- 'rgtop.TopGone': WHATEVER THE INPUT: true; the input reads as it did. -/
def topGoneSpec : ChangeSpec := { name := "topGone", fn := fun _ => fun
  | [d1, d2] => { results := [.lit (.bool true)], args := [d1, d2] }
  | _ => none }
def topGoneRow : OpenClaim := { program := "ythagjdhjmamakaagreatdoor", sum := "c90b7ba762023ad67f20f2bd9040d960b878136598a5f2620321cf7c845b03e3", func := "ringfence/rgtop.TopGone", spec := "topGone", inPlace := ["internal/bytealg.IndexByteString", "internal/bytealg.IndexString", "slices.overlaps[ringfence/api.Entry]", "internal/abi.NoEscape", "internal/bytealg.MakeNoZero"], unfollowed := true, recurses := true, named := ["unicode/utf8.first", "unicode/utf8.acceptRanges", "internal/bytealg.MaxLen"], apart := false, laid := [("unicode/utf8.acceptRanges", laid_unicode_utf8_acceptRanges), ("unicode/utf8.first", laid_unicode_utf8_first)] }
def TopGoneSaid : Prop := topGoneRow.holds Tryz.pinned (OpenSpec.ofChange topGoneSpec)

/-- ITS FALSE NEIGHBOUR: 'it returns false'. Refute it at one input. -/
def topGoneWrong : ChangeSpec := { name := "topGone", fn := fun _ => fun
  | [d1, d2] => { results := [.lit (.bool false)], args := [d1, d2] }
  | _ => none }
def TopGoneWrongFalsely : Prop := topGoneRow.holds Tryz.pinned (OpenSpec.ofChange topGoneWrong)

/-- 'rgtop.TopOrphan': WHATEVER THE INPUT: true; the input reads as it did. -/
def topOrphanSpec : ChangeSpec := { name := "topOrphan", fn := fun _ => fun
  | [d1, d2, d3] => { results := [.lit (.bool true)], args := [d1, d2, d3] }
  | _ => none }
def topOrphanRow : OpenClaim := { program := "ythagjdhjmamakaagreatdoor", sum := "c90b7ba762023ad67f20f2bd9040d960b878136598a5f2620321cf7c845b03e3", func := "ringfence/rgtop.TopOrphan", spec := "topOrphan", inPlace := ["internal/bytealg.IndexByteString", "internal/bytealg.IndexString", "slices.overlaps[ringfence/api.Entry]", "internal/abi.NoEscape", "internal/bytealg.MakeNoZero"], unfollowed := true, recurses := true, named := ["unicode/utf8.first", "unicode/utf8.acceptRanges", "internal/bytealg.MaxLen"], apart := false, laid := [("unicode/utf8.acceptRanges", laid_unicode_utf8_acceptRanges), ("unicode/utf8.first", laid_unicode_utf8_first)] }
def TopOrphanSaid : Prop := topOrphanRow.holds Tryz.pinned (OpenSpec.ofChange topOrphanSpec)

/-- ITS FALSE NEIGHBOUR: 'it returns false'. Refute it at one input. -/
def topOrphanWrong : ChangeSpec := { name := "topOrphan", fn := fun _ => fun
  | [d1, d2, d3] => { results := [.lit (.bool false)], args := [d1, d2, d3] }
  | _ => none }
def TopOrphanWrongFalsely : Prop := topOrphanRow.holds Tryz.pinned (OpenSpec.ofChange topOrphanWrong)

/- THE SECOND FORM. 'bulk': how many values and letters a reading holds, each counted each time it is reached (what is shared counts as often as it is met; a slice's spare places count too). A statement '..UptoSaid' is the law's where the arguments, and the package variables that the reading takes, are together of bulk at most 1048576: NARROWER than '..Said'. Prove '..Said' where nothing that the law and all that it calls make is longer than what came in: it says more and counts as full. Else prove '..UptoSaid'. A law counts once. -/
mutual
def uptoBulk {H : Type} : DataW H → Nat
  | .lit (.string bytes) => bytes.length + 1
  | .lit _ => 1
  | .nil => 1
  | .ptr d => uptoBulk d + 1
  | .slice elems spare => uptoBulkAll elems + uptoBulkAll spare + 1
  | .agg parts => uptoBulkAll parts + 1
  | .iface _ d => uptoBulk d + 1
  | .map entries => uptoBulkEntries entries + 1
  | .held _ => 1
def uptoBulkAll {H : Type} : List (DataW H) → Nat
  | [] => 0
  | d :: r => uptoBulk d + uptoBulkAll r
def uptoBulkEntries {H : Type} : List (Lit × DataW H) → Nat
  | [] => 0
  | x :: r => uptoBulkEntry x + uptoBulkEntries r
def uptoBulkEntry {H : Type} : Lit × DataW H → Nat
  | (.string bytes, d) => bytes.length + uptoBulk d + 1
  | (_, d) => uptoBulk d + 1
 end
def uptoSmall : (H : Type) → List (DataW H) → Bool := fun _ ds => decide (uptoBulkAll ds ≤ 1048576)
def OpenSpec.upto (s : _root_.Go.ChangeSpec) : _root_.Go.OpenSpec := { _root_.Go.OpenSpec.ofChange s with cond := some uptoSmall }

/-- 'rgtop.TopJail', WHERE WHAT IT READS IS OF BULK AT MOST 1048576: true; the input reads as it did. -/
def topJailUptoRow : OpenClaim := { program := "ythagjdhjmamakaagreatdoor", sum := "c90b7ba762023ad67f20f2bd9040d960b878136598a5f2620321cf7c845b03e3", func := "ringfence/rgtop.TopJail", spec := "topJail", inPlace := ["internal/bytealg.IndexByteString", "internal/bytealg.IndexString", "slices.overlaps[ringfence/api.Entry]", "internal/abi.NoEscape", "internal/bytealg.MakeNoZero"], unfollowed := true, recurses := true, named := ["unicode/utf8.first", "unicode/utf8.acceptRanges", "internal/bytealg.MaxLen"], apart := false, laid := [("unicode/utf8.acceptRanges", laid_unicode_utf8_acceptRanges), ("unicode/utf8.first", laid_unicode_utf8_first)], narrowed := true }
def TopJailUptoSaid : Prop := topJailUptoRow.holds Tryz.pinned (OpenSpec.upto topJailSpec)

/-- 'rgtop.TopShare', WHERE WHAT IT READS IS OF BULK AT MOST 1048576: true; the input reads as it did. -/
def topShareUptoRow : OpenClaim := { program := "ythagjdhjmamakaagreatdoor", sum := "c90b7ba762023ad67f20f2bd9040d960b878136598a5f2620321cf7c845b03e3", func := "ringfence/rgtop.TopShare", spec := "topShare", inPlace := ["internal/bytealg.IndexByteString", "internal/bytealg.IndexString", "slices.overlaps[ringfence/api.Entry]", "internal/abi.NoEscape", "internal/bytealg.MakeNoZero"], unfollowed := true, recurses := true, named := ["unicode/utf8.first", "unicode/utf8.acceptRanges", "internal/bytealg.MaxLen"], apart := false, laid := [("unicode/utf8.acceptRanges", laid_unicode_utf8_acceptRanges), ("unicode/utf8.first", laid_unicode_utf8_first)], narrowed := true }
def TopShareUptoSaid : Prop := topShareUptoRow.holds Tryz.pinned (OpenSpec.upto topShareSpec)

/-- 'rgtop.TopPass', WHERE WHAT IT READS IS OF BULK AT MOST 1048576: true; the input reads as it did. -/
def topPassUptoRow : OpenClaim := { program := "ythagjdhjmamakaagreatdoor", sum := "c90b7ba762023ad67f20f2bd9040d960b878136598a5f2620321cf7c845b03e3", func := "ringfence/rgtop.TopPass", spec := "topPass", inPlace := ["internal/bytealg.IndexByteString", "internal/bytealg.IndexString", "slices.overlaps[ringfence/api.Entry]", "internal/abi.NoEscape", "internal/bytealg.MakeNoZero"], unfollowed := true, recurses := true, named := ["unicode/utf8.first", "unicode/utf8.acceptRanges", "internal/bytealg.MaxLen"], apart := false, laid := [("unicode/utf8.acceptRanges", laid_unicode_utf8_acceptRanges), ("unicode/utf8.first", laid_unicode_utf8_first)], narrowed := true }
def TopPassUptoSaid : Prop := topPassUptoRow.holds Tryz.pinned (OpenSpec.upto topPassSpec)

/-- 'rgtop.TopGone', WHERE WHAT IT READS IS OF BULK AT MOST 1048576: true; the input reads as it did. -/
def topGoneUptoRow : OpenClaim := { program := "ythagjdhjmamakaagreatdoor", sum := "c90b7ba762023ad67f20f2bd9040d960b878136598a5f2620321cf7c845b03e3", func := "ringfence/rgtop.TopGone", spec := "topGone", inPlace := ["internal/bytealg.IndexByteString", "internal/bytealg.IndexString", "slices.overlaps[ringfence/api.Entry]", "internal/abi.NoEscape", "internal/bytealg.MakeNoZero"], unfollowed := true, recurses := true, named := ["unicode/utf8.first", "unicode/utf8.acceptRanges", "internal/bytealg.MaxLen"], apart := false, laid := [("unicode/utf8.acceptRanges", laid_unicode_utf8_acceptRanges), ("unicode/utf8.first", laid_unicode_utf8_first)], narrowed := true }
def TopGoneUptoSaid : Prop := topGoneUptoRow.holds Tryz.pinned (OpenSpec.upto topGoneSpec)

/-- 'rgtop.TopOrphan', WHERE WHAT IT READS IS OF BULK AT MOST 1048576: true; the input reads as it did. -/
def topOrphanUptoRow : OpenClaim := { program := "ythagjdhjmamakaagreatdoor", sum := "c90b7ba762023ad67f20f2bd9040d960b878136598a5f2620321cf7c845b03e3", func := "ringfence/rgtop.TopOrphan", spec := "topOrphan", inPlace := ["internal/bytealg.IndexByteString", "internal/bytealg.IndexString", "slices.overlaps[ringfence/api.Entry]", "internal/abi.NoEscape", "internal/bytealg.MakeNoZero"], unfollowed := true, recurses := true, named := ["unicode/utf8.first", "unicode/utf8.acceptRanges", "internal/bytealg.MaxLen"], apart := false, laid := [("unicode/utf8.acceptRanges", laid_unicode_utf8_acceptRanges), ("unicode/utf8.first", laid_unicode_utf8_first)], narrowed := true }
def TopOrphanUptoSaid : Prop := topOrphanUptoRow.holds Tryz.pinned (OpenSpec.upto topOrphanSpec)

end Rows
end Go.Proofs.YthagjdhjmamakaaGreatDoor
