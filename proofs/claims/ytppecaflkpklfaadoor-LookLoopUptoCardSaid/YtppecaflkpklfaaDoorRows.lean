/-
  NARROWER THAN 'FOR EVERY INPUT', by the rows' own cells (each row's printed sentence says how): LookTells: laid · LookBeneath: laid · LookSame: laid · LookStep: laid · LookLoop: laid.
  DERIVED. THE GIVEN ROWS OF THIS SEAT. 5 by the template 'for every input the law returns true; each argument reads behind the call as it read before'; 0 by the template 'total and deterministic' (their statements: YtppecaflkpklfaaDoorTotals.lean).
  GIVEN WITH THE SEED: the statements are not yours to turn. If you find one false, say at which input.
  Laid BY PROGRAM, IN A SANDBOX (cutbox-rows.mjs): the forced cells as the released guide's own fill.sh prints them over the translation 2d3cb1bad5a01bc5… (all of the seat's roots in one cut). By AI agents, Wed Nov 11 2026. No macro, syntax, notation, axiom, sorry.
-/
import Derived.Test.YtppecaflkpklfaaDoorChecked
import GoSem.PinnedTables
import GoSem.Claim
import GoSem.ClaimJoined
import GoSem.ClaimMapViews
import Derived.JoinedTies
import Derived.KernelRfl
namespace Go.Proofs.YtppecaflkpklfaaDoor
/- THE CELL 'sum', in the pinned program and in every row, IS THE sha256 OF THE DUMP (.gsa) THAT YtppecaflkpklfaaDoorProg.lean LOADS. Nothing in Lean hashes anything: it is a label: what it is worth is what the hold of that sum in a sandbox is worth. -/
noncomputable def Tryd.pinned : Pinned := { name := "ytppecaflkpklfaadoor", sum := "2d3cb1bad5a01bc5f42a22e8c088ae9220b62a1ff0e5fdd63490724347cd3aad", checked := Tryd.checked }
namespace Rows
def none {H : Type} : Left H := { results := [], args := [] }

/- WHAT THE LISTED PACKAGE-LEVEL VARIABLES READ AS WHEN THE CALL BEGINS. Each datum BY PROGRAM (the guide's laid-datum.mjs) off the statement by which the dump's own 'gosem.cut.vars' lays the variable. In a bare row this is a premise. The card (YtppecaflkpklfaaDoorCards.lean) ties it to the program's text. -/
def laid_unicode_utf8_acceptRanges {H : Type} : DataW H := .agg [.agg [.lit (.int .u8 128), .lit (.int .u8 191)], .agg [.lit (.int .u8 160), .lit (.int .u8 191)], .agg [.lit (.int .u8 128), .lit (.int .u8 159)], .agg [.lit (.int .u8 144), .lit (.int .u8 191)], .agg [.lit (.int .u8 128), .lit (.int .u8 143)], .agg [.lit (.int .u8 0), .lit (.int .u8 0)], .agg [.lit (.int .u8 0), .lit (.int .u8 0)], .agg [.lit (.int .u8 0), .lit (.int .u8 0)], .agg [.lit (.int .u8 0), .lit (.int .u8 0)], .agg [.lit (.int .u8 0), .lit (.int .u8 0)], .agg [.lit (.int .u8 0), .lit (.int .u8 0)], .agg [.lit (.int .u8 0), .lit (.int .u8 0)], .agg [.lit (.int .u8 0), .lit (.int .u8 0)], .agg [.lit (.int .u8 0), .lit (.int .u8 0)], .agg [.lit (.int .u8 0), .lit (.int .u8 0)], .agg [.lit (.int .u8 0), .lit (.int .u8 0)]]
/-- One of Go's own tables, pinned by name: the form's constant. -/
def laid_unicode_utf8_first : DataW Unit := Go.Pinned.utf8First

/-- 'rglaw6.LookTells': WHATEVER THE INPUT: true; the input reads as it did. -/
def lookTellsSpec : ChangeSpec := { name := "lookTells", fn := fun _ => fun
  | [d1, d2, d3, d4, d5, d6] => { results := [.lit (.bool true)], args := [d1, d2, d3, d4, d5, d6] }
  | _ => none }
def lookTellsRow : OpenClaim := { program := "ytppecaflkpklfaadoor", sum := "2d3cb1bad5a01bc5f42a22e8c088ae9220b62a1ff0e5fdd63490724347cd3aad", func := "ringfence/rglaw6.LookTells", spec := "lookTells", inPlace := ["internal/bytealg.IndexByteString", "internal/bytealg.IndexString"], unfollowed := true, recurses := true, named := ["unicode/utf8.first", "unicode/utf8.acceptRanges", "internal/bytealg.MaxLen"], apart := false, laid := [("unicode/utf8.acceptRanges", laid_unicode_utf8_acceptRanges), ("unicode/utf8.first", laid_unicode_utf8_first)] }
def LookTellsSaid : Prop := lookTellsRow.holds Tryd.pinned (OpenSpec.ofChange lookTellsSpec)

/-- ITS FALSE NEIGHBOUR: 'it returns false'. Refute it at one input. -/
def lookTellsWrong : ChangeSpec := { name := "lookTells", fn := fun _ => fun
  | [d1, d2, d3, d4, d5, d6] => { results := [.lit (.bool false)], args := [d1, d2, d3, d4, d5, d6] }
  | _ => none }
def LookTellsWrongFalsely : Prop := lookTellsRow.holds Tryd.pinned (OpenSpec.ofChange lookTellsWrong)

/-- 'rglaw6.LookBeneath': WHATEVER THE INPUT: true; the input reads as it did. -/
def lookBeneathSpec : ChangeSpec := { name := "lookBeneath", fn := fun _ => fun
  | [d1, d2, d3, d4] => { results := [.lit (.bool true)], args := [d1, d2, d3, d4] }
  | _ => none }
def lookBeneathRow : OpenClaim := { program := "ytppecaflkpklfaadoor", sum := "2d3cb1bad5a01bc5f42a22e8c088ae9220b62a1ff0e5fdd63490724347cd3aad", func := "ringfence/rglaw6.LookBeneath", spec := "lookBeneath", inPlace := ["internal/bytealg.IndexByteString", "internal/bytealg.IndexString"], unfollowed := true, recurses := true, named := ["unicode/utf8.first", "unicode/utf8.acceptRanges", "internal/bytealg.MaxLen"], apart := false, laid := [("unicode/utf8.acceptRanges", laid_unicode_utf8_acceptRanges), ("unicode/utf8.first", laid_unicode_utf8_first)] }
def LookBeneathSaid : Prop := lookBeneathRow.holds Tryd.pinned (OpenSpec.ofChange lookBeneathSpec)

/-- ITS FALSE NEIGHBOUR: 'it returns false'. Refute it at one input. -/
def lookBeneathWrong : ChangeSpec := { name := "lookBeneath", fn := fun _ => fun
  | [d1, d2, d3, d4] => { results := [.lit (.bool false)], args := [d1, d2, d3, d4] }
  | _ => none }
def LookBeneathWrongFalsely : Prop := lookBeneathRow.holds Tryd.pinned (OpenSpec.ofChange lookBeneathWrong)

/-- 'rglaw6.LookSame': WHATEVER THE INPUT: true; the input reads as it did. -/
def lookSameSpec : ChangeSpec := { name := "lookSame", fn := fun _ => fun
  | [d1, d2, d3, d4] => { results := [.lit (.bool true)], args := [d1, d2, d3, d4] }
  | _ => none }
def lookSameRow : OpenClaim := { program := "ytppecaflkpklfaadoor", sum := "2d3cb1bad5a01bc5f42a22e8c088ae9220b62a1ff0e5fdd63490724347cd3aad", func := "ringfence/rglaw6.LookSame", spec := "lookSame", inPlace := ["internal/bytealg.IndexByteString", "internal/bytealg.IndexString"], unfollowed := true, recurses := true, named := ["unicode/utf8.first", "unicode/utf8.acceptRanges", "internal/bytealg.MaxLen"], apart := false, laid := [("unicode/utf8.acceptRanges", laid_unicode_utf8_acceptRanges), ("unicode/utf8.first", laid_unicode_utf8_first)] }
def LookSameSaid : Prop := lookSameRow.holds Tryd.pinned (OpenSpec.ofChange lookSameSpec)

/-- ITS FALSE NEIGHBOUR: 'it returns false'. Refute it at one input. -/
def lookSameWrong : ChangeSpec := { name := "lookSame", fn := fun _ => fun
  | [d1, d2, d3, d4] => { results := [.lit (.bool false)], args := [d1, d2, d3, d4] }
  | _ => none }
def LookSameWrongFalsely : Prop := lookSameRow.holds Tryd.pinned (OpenSpec.ofChange lookSameWrong)

/-- 'rglaw6.LookStep': WHATEVER THE INPUT: true; the input reads as it did. -/
def lookStepSpec : ChangeSpec := { name := "lookStep", fn := fun _ => fun
  | [d1, d2, d3] => { results := [.lit (.bool true)], args := [d1, d2, d3] }
  | _ => none }
def lookStepRow : OpenClaim := { program := "ytppecaflkpklfaadoor", sum := "2d3cb1bad5a01bc5f42a22e8c088ae9220b62a1ff0e5fdd63490724347cd3aad", func := "ringfence/rglaw6.LookStep", spec := "lookStep", inPlace := ["internal/bytealg.IndexByteString", "internal/bytealg.IndexString"], unfollowed := true, recurses := true, named := ["unicode/utf8.first", "unicode/utf8.acceptRanges", "internal/bytealg.MaxLen"], apart := false, laid := [("unicode/utf8.acceptRanges", laid_unicode_utf8_acceptRanges), ("unicode/utf8.first", laid_unicode_utf8_first)] }
def LookStepSaid : Prop := lookStepRow.holds Tryd.pinned (OpenSpec.ofChange lookStepSpec)

/-- ITS FALSE NEIGHBOUR: 'it returns false'. Refute it at one input. -/
def lookStepWrong : ChangeSpec := { name := "lookStep", fn := fun _ => fun
  | [d1, d2, d3] => { results := [.lit (.bool false)], args := [d1, d2, d3] }
  | _ => none }
def LookStepWrongFalsely : Prop := lookStepRow.holds Tryd.pinned (OpenSpec.ofChange lookStepWrong)

/-- 'rglaw6.LookLoop': WHATEVER THE INPUT: true; the input reads as it did. -/
def lookLoopSpec : ChangeSpec := { name := "lookLoop", fn := fun _ => fun
  | [d1, d2, d3] => { results := [.lit (.bool true)], args := [d1, d2, d3] }
  | _ => none }
def lookLoopRow : OpenClaim := { program := "ytppecaflkpklfaadoor", sum := "2d3cb1bad5a01bc5f42a22e8c088ae9220b62a1ff0e5fdd63490724347cd3aad", func := "ringfence/rglaw6.LookLoop", spec := "lookLoop", inPlace := ["internal/bytealg.IndexByteString", "internal/bytealg.IndexString"], unfollowed := true, recurses := true, named := ["unicode/utf8.first", "unicode/utf8.acceptRanges", "internal/bytealg.MaxLen"], apart := false, laid := [("unicode/utf8.acceptRanges", laid_unicode_utf8_acceptRanges), ("unicode/utf8.first", laid_unicode_utf8_first)] }
def LookLoopSaid : Prop := lookLoopRow.holds Tryd.pinned (OpenSpec.ofChange lookLoopSpec)

/-- ITS FALSE NEIGHBOUR: 'it returns false'. Refute it at one input. -/
def lookLoopWrong : ChangeSpec := { name := "lookLoop", fn := fun _ => fun
  | [d1, d2, d3] => { results := [.lit (.bool false)], args := [d1, d2, d3] }
  | _ => none }
def LookLoopWrongFalsely : Prop := lookLoopRow.holds Tryd.pinned (OpenSpec.ofChange lookLoopWrong)

/- THE SECOND FORM. 'bulk': how many values and letters a reading holds, each counted each time it is reached (what is shared counts as often as it is met; a slice's spare places count too). A statement '..UptoSaid' is the law's where the arguments, and the package variables that the reading takes, are together of bulk at most 1048576: NARROWER than '..Said'. Prove '..Said' where nothing that the law and all that it calls make is longer than what came in: it says more and counts as full. Else prove '..UptoSaid'. A law counts once. -/
mutual
def uptoBulk {H : Type} : DataW H → Nat
  | .lit (.string bytes) => bytes.length + 1
  | .lit _ => 1
  | .nil => 1
  | .ptr d => uptoBulk d + 1
  | .slice elems spare => uptoBulkAll elems + uptoBulkAll spare + 1
  | .agg parts => uptoBulkAll parts + 1
  | .iface _ d => uptoBulk d + 1
  | .map entries => uptoBulkEntries entries + 1
  | .held _ => 1
def uptoBulkAll {H : Type} : List (DataW H) → Nat
  | [] => 0
  | d :: r => uptoBulk d + uptoBulkAll r
def uptoBulkEntries {H : Type} : List (Lit × DataW H) → Nat
  | [] => 0
  | x :: r => uptoBulkEntry x + uptoBulkEntries r
def uptoBulkEntry {H : Type} : Lit × DataW H → Nat
  | (.string bytes, d) => bytes.length + uptoBulk d + 1
  | (_, d) => uptoBulk d + 1
 end
def uptoSmall : (H : Type) → List (DataW H) → Bool := fun _ ds => decide (uptoBulkAll ds ≤ 1048576)
def OpenSpec.upto (s : _root_.Go.ChangeSpec) : _root_.Go.OpenSpec := { _root_.Go.OpenSpec.ofChange s with cond := some uptoSmall }

/-- 'rglaw6.LookTells', WHERE WHAT IT READS IS OF BULK AT MOST 1048576: true; the input reads as it did. -/
def lookTellsUptoRow : OpenClaim := { program := "ytppecaflkpklfaadoor", sum := "2d3cb1bad5a01bc5f42a22e8c088ae9220b62a1ff0e5fdd63490724347cd3aad", func := "ringfence/rglaw6.LookTells", spec := "lookTells", inPlace := ["internal/bytealg.IndexByteString", "internal/bytealg.IndexString"], unfollowed := true, recurses := true, named := ["unicode/utf8.first", "unicode/utf8.acceptRanges", "internal/bytealg.MaxLen"], apart := false, laid := [("unicode/utf8.acceptRanges", laid_unicode_utf8_acceptRanges), ("unicode/utf8.first", laid_unicode_utf8_first)], narrowed := true }
def LookTellsUptoSaid : Prop := lookTellsUptoRow.holds Tryd.pinned (OpenSpec.upto lookTellsSpec)

/-- 'rglaw6.LookBeneath', WHERE WHAT IT READS IS OF BULK AT MOST 1048576: true; the input reads as it did. -/
def lookBeneathUptoRow : OpenClaim := { program := "ytppecaflkpklfaadoor", sum := "2d3cb1bad5a01bc5f42a22e8c088ae9220b62a1ff0e5fdd63490724347cd3aad", func := "ringfence/rglaw6.LookBeneath", spec := "lookBeneath", inPlace := ["internal/bytealg.IndexByteString", "internal/bytealg.IndexString"], unfollowed := true, recurses := true, named := ["unicode/utf8.first", "unicode/utf8.acceptRanges", "internal/bytealg.MaxLen"], apart := false, laid := [("unicode/utf8.acceptRanges", laid_unicode_utf8_acceptRanges), ("unicode/utf8.first", laid_unicode_utf8_first)], narrowed := true }
def LookBeneathUptoSaid : Prop := lookBeneathUptoRow.holds Tryd.pinned (OpenSpec.upto lookBeneathSpec)

/-- 'rglaw6.LookSame', WHERE WHAT IT READS IS OF BULK AT MOST 1048576: true; the input reads as it did. -/
def lookSameUptoRow : OpenClaim := { program := "ytppecaflkpklfaadoor", sum := "2d3cb1bad5a01bc5f42a22e8c088ae9220b62a1ff0e5fdd63490724347cd3aad", func := "ringfence/rglaw6.LookSame", spec := "lookSame", inPlace := ["internal/bytealg.IndexByteString", "internal/bytealg.IndexString"], unfollowed := true, recurses := true, named := ["unicode/utf8.first", "unicode/utf8.acceptRanges", "internal/bytealg.MaxLen"], apart := false, laid := [("unicode/utf8.acceptRanges", laid_unicode_utf8_acceptRanges), ("unicode/utf8.first", laid_unicode_utf8_first)], narrowed := true }
def LookSameUptoSaid : Prop := lookSameUptoRow.holds Tryd.pinned (OpenSpec.upto lookSameSpec)

/-- 'rglaw6.LookStep', WHERE WHAT IT READS IS OF BULK AT MOST 1048576: true; the input reads as it did. -/
def lookStepUptoRow : OpenClaim := { program := "ytppecaflkpklfaadoor", sum := "2d3cb1bad5a01bc5f42a22e8c088ae9220b62a1ff0e5fdd63490724347cd3aad", func := "ringfence/rglaw6.LookStep", spec := "lookStep", inPlace := ["internal/bytealg.IndexByteString", "internal/bytealg.IndexString"], unfollowed := true, recurses := true, named := ["unicode/utf8.first", "unicode/utf8.acceptRanges", "internal/bytealg.MaxLen"], apart := false, laid := [("unicode/utf8.acceptRanges", laid_unicode_utf8_acceptRanges), ("unicode/utf8.first", laid_unicode_utf8_first)], narrowed := true }
def LookStepUptoSaid : Prop := lookStepUptoRow.holds Tryd.pinned (OpenSpec.upto lookStepSpec)

/-- 'rglaw6.LookLoop', WHERE WHAT IT READS IS OF BULK AT MOST 1048576: true; the input reads as it did. -/
def lookLoopUptoRow : OpenClaim := { program := "ytppecaflkpklfaadoor", sum := "2d3cb1bad5a01bc5f42a22e8c088ae9220b62a1ff0e5fdd63490724347cd3aad", func := "ringfence/rglaw6.LookLoop", spec := "lookLoop", inPlace := ["internal/bytealg.IndexByteString", "internal/bytealg.IndexString"], unfollowed := true, recurses := true, named := ["unicode/utf8.first", "unicode/utf8.acceptRanges", "internal/bytealg.MaxLen"], apart := false, laid := [("unicode/utf8.acceptRanges", laid_unicode_utf8_acceptRanges), ("unicode/utf8.first", laid_unicode_utf8_first)], narrowed := true }
def LookLoopUptoSaid : Prop := lookLoopUptoRow.holds Tryd.pinned (OpenSpec.upto lookLoopSpec)

end Rows
end Go.Proofs.YtppecaflkpklfaaDoor
