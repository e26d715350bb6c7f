/-
  No cell of these rows narrows 'for every input' (looked for: loops, veiled, ifaces, maps, wideKeys, modest, calm, conditions, laid).
  DERIVED. THE GIVEN ROWS OF THIS SEAT. 12 by the template 'for every input the law returns true; each argument reads behind the call as it read before'; 0 by the template 'total and deterministic' (their statements: YtflieebgiejjpaaTotals.lean).
  GIVEN WITH THE SEED: the statements are not yours to turn. If you find one false, say at which input.
  Laid BY PROGRAM, IN A SANDBOX (cutbox-rows.mjs): the forced cells as the released guide's own fill.sh prints them over the translation 889a854455e26ec4… (all of the seat's roots in one cut). By AI agents, Wed Nov 11 2026. No macro, syntax, notation, axiom, sorry.
-/
import Derived.Test.YtflieebgiejjpaaChecked
import GoSem.Claim
import GoSem.ClaimJoined
import GoSem.ClaimMapViews
import Derived.JoinedTies
import Derived.KernelRfl
namespace Go.Proofs.Ytflieebgiejjpaa
/- THE CELL 'sum', in the pinned program and in every row, IS THE sha256 OF THE DUMP (.gsa) THAT YtflieebgiejjpaaProg.lean LOADS. Nothing in Lean hashes anything: it is a label: what it is worth is what the hold of that sum in a sandbox is worth. -/
noncomputable def Try.pinned : Pinned := { name := "ytflieebgiejjpaa", sum := "889a854455e26ec43ed6fd6a8e7a5afc91692f181cd973549efec216f167133f", checked := Try.checked }
namespace Rows
def none {H : Type} : Left H := { results := [], args := [] }

/-- 'rglaw3.GateTells': WHATEVER THE INPUT: true; the input reads as it did. -/
def gateTellsSpec : ChangeSpec := { name := "gateTells", fn := fun _ => fun
  | [d1, d2] => { results := [.lit (.bool true)], args := [d1, d2] }
  | _ => none }
def gateTellsRow : OpenClaim := { program := "ytflieebgiejjpaa", sum := "889a854455e26ec43ed6fd6a8e7a5afc91692f181cd973549efec216f167133f", func := "ringfence/rglaw3.GateTells", spec := "gateTells", unfollowed := true, recurses := true, apart := false }
def GateTellsSaid : Prop := gateTellsRow.holds Try.pinned (OpenSpec.ofChange gateTellsSpec)

/-- ITS FALSE NEIGHBOUR: 'it returns false'. Refute it at one input. -/
def gateTellsWrong : ChangeSpec := { name := "gateTells", fn := fun _ => fun
  | [d1, d2] => { results := [.lit (.bool false)], args := [d1, d2] }
  | _ => none }
def GateTellsWrongFalsely : Prop := gateTellsRow.holds Try.pinned (OpenSpec.ofChange gateTellsWrong)

/-- 'rglaw13.FenceTells': WHATEVER THE INPUT: true; the input reads as it did. -/
def fenceTellsSpec : ChangeSpec := { name := "fenceTells", fn := fun _ => fun
  | [d1, d2] => { results := [.lit (.bool true)], args := [d1, d2] }
  | _ => none }
def fenceTellsRow : OpenClaim := { program := "ytflieebgiejjpaa", sum := "889a854455e26ec43ed6fd6a8e7a5afc91692f181cd973549efec216f167133f", func := "ringfence/rglaw13.FenceTells", spec := "fenceTells", unfollowed := true, recurses := true, apart := false }
def FenceTellsSaid : Prop := fenceTellsRow.holds Try.pinned (OpenSpec.ofChange fenceTellsSpec)

/-- ITS FALSE NEIGHBOUR: 'it returns false'. Refute it at one input. -/
def fenceTellsWrong : ChangeSpec := { name := "fenceTells", fn := fun _ => fun
  | [d1, d2] => { results := [.lit (.bool false)], args := [d1, d2] }
  | _ => none }
def FenceTellsWrongFalsely : Prop := fenceTellsRow.holds Try.pinned (OpenSpec.ofChange fenceTellsWrong)

/-- 'rglaw7.TableTells': WHATEVER THE INPUT: true; the input reads as it did. -/
def tableTellsSpec : ChangeSpec := { name := "tableTells", fn := fun _ => fun
  | [d1, d2, d3, d4] => { results := [.lit (.bool true)], args := [d1, d2, d3, d4] }
  | _ => none }
def tableTellsRow : OpenClaim := { program := "ytflieebgiejjpaa", sum := "889a854455e26ec43ed6fd6a8e7a5afc91692f181cd973549efec216f167133f", func := "ringfence/rglaw7.TableTells", spec := "tableTells", unfollowed := true, recurses := true, apart := false }
def TableTellsSaid : Prop := tableTellsRow.holds Try.pinned (OpenSpec.ofChange tableTellsSpec)

/-- ITS FALSE NEIGHBOUR: 'it returns false'. Refute it at one input. -/
def tableTellsWrong : ChangeSpec := { name := "tableTells", fn := fun _ => fun
  | [d1, d2, d3, d4] => { results := [.lit (.bool false)], args := [d1, d2, d3, d4] }
  | _ => none }
def TableTellsWrongFalsely : Prop := tableTellsRow.holds Try.pinned (OpenSpec.ofChange tableTellsWrong)

/-- 'rglaw7.TableLess': WHATEVER THE INPUT: true; the input reads as it did. -/
def tableLessSpec : ChangeSpec := { name := "tableLess", fn := fun _ => fun
  | [d1, d2, d3, d4] => { results := [.lit (.bool true)], args := [d1, d2, d3, d4] }
  | _ => none }
def tableLessRow : OpenClaim := { program := "ytflieebgiejjpaa", sum := "889a854455e26ec43ed6fd6a8e7a5afc91692f181cd973549efec216f167133f", func := "ringfence/rglaw7.TableLess", spec := "tableLess", unfollowed := true, recurses := true, apart := false }
def TableLessSaid : Prop := tableLessRow.holds Try.pinned (OpenSpec.ofChange tableLessSpec)

/-- ITS FALSE NEIGHBOUR: 'it returns false'. Refute it at one input. -/
def tableLessWrong : ChangeSpec := { name := "tableLess", fn := fun _ => fun
  | [d1, d2, d3, d4] => { results := [.lit (.bool false)], args := [d1, d2, d3, d4] }
  | _ => none }
def TableLessWrongFalsely : Prop := tableLessRow.holds Try.pinned (OpenSpec.ofChange tableLessWrong)

/-- 'rglaw2.BpfTells': WHATEVER THE INPUT: true; the input reads as it did. -/
def bpfTellsSpec : ChangeSpec := { name := "bpfTells", fn := fun _ => fun
  | [d1, d2, d3] => { results := [.lit (.bool true)], args := [d1, d2, d3] }
  | _ => none }
def bpfTellsRow : OpenClaim := { program := "ytflieebgiejjpaa", sum := "889a854455e26ec43ed6fd6a8e7a5afc91692f181cd973549efec216f167133f", func := "ringfence/rglaw2.BpfTells", spec := "bpfTells", recurses := true, apart := false }
def BpfTellsSaid : Prop := bpfTellsRow.holds Try.pinned (OpenSpec.ofChange bpfTellsSpec)

/-- ITS FALSE NEIGHBOUR: 'it returns false'. Refute it at one input. -/
def bpfTellsWrong : ChangeSpec := { name := "bpfTells", fn := fun _ => fun
  | [d1, d2, d3] => { results := [.lit (.bool false)], args := [d1, d2, d3] }
  | _ => none }
def BpfTellsWrongFalsely : Prop := bpfTellsRow.holds Try.pinned (OpenSpec.ofChange bpfTellsWrong)

/-- 'rglaw2.BpfEnds': WHATEVER THE INPUT: true; the input reads as it did. -/
def bpfEndsSpec : ChangeSpec := { name := "bpfEnds", fn := fun _ => fun
  | [d1, d2] => { results := [.lit (.bool true)], args := [d1, d2] }
  | _ => none }
def bpfEndsRow : OpenClaim := { program := "ytflieebgiejjpaa", sum := "889a854455e26ec43ed6fd6a8e7a5afc91692f181cd973549efec216f167133f", func := "ringfence/rglaw2.BpfEnds", spec := "bpfEnds", apart := false }
def BpfEndsSaid : Prop := bpfEndsRow.holds Try.pinned (OpenSpec.ofChange bpfEndsSpec)

/-- ITS FALSE NEIGHBOUR: 'it returns false'. Refute it at one input. -/
def bpfEndsWrong : ChangeSpec := { name := "bpfEnds", fn := fun _ => fun
  | [d1, d2] => { results := [.lit (.bool false)], args := [d1, d2] }
  | _ => none }
def BpfEndsWrongFalsely : Prop := bpfEndsRow.holds Try.pinned (OpenSpec.ofChange bpfEndsWrong)

/-- 'rglaw2.BpfTurns': WHATEVER THE INPUT: true; the input reads as it did. -/
def bpfTurnsSpec : ChangeSpec := { name := "bpfTurns", fn := fun _ => fun
  | [d1, d2] => { results := [.lit (.bool true)], args := [d1, d2] }
  | _ => none }
def bpfTurnsRow : OpenClaim := { program := "ytflieebgiejjpaa", sum := "889a854455e26ec43ed6fd6a8e7a5afc91692f181cd973549efec216f167133f", func := "ringfence/rglaw2.BpfTurns", spec := "bpfTurns", apart := false }
def BpfTurnsSaid : Prop := bpfTurnsRow.holds Try.pinned (OpenSpec.ofChange bpfTurnsSpec)

/-- ITS FALSE NEIGHBOUR: 'it returns false'. Refute it at one input. -/
def bpfTurnsWrong : ChangeSpec := { name := "bpfTurns", fn := fun _ => fun
  | [d1, d2] => { results := [.lit (.bool false)], args := [d1, d2] }
  | _ => none }
def BpfTurnsWrongFalsely : Prop := bpfTurnsRow.holds Try.pinned (OpenSpec.ofChange bpfTurnsWrong)

/-- 'rglaw2.BpfAhead': WHATEVER THE INPUT: true; the input reads as it did. -/
def bpfAheadSpec : ChangeSpec := { name := "bpfAhead", fn := fun _ => fun
  | [d1, d2, d3] => { results := [.lit (.bool true)], args := [d1, d2, d3] }
  | _ => none }
def bpfAheadRow : OpenClaim := { program := "ytflieebgiejjpaa", sum := "889a854455e26ec43ed6fd6a8e7a5afc91692f181cd973549efec216f167133f", func := "ringfence/rglaw2.BpfAhead", spec := "bpfAhead", apart := false }
def BpfAheadSaid : Prop := bpfAheadRow.holds Try.pinned (OpenSpec.ofChange bpfAheadSpec)

/-- ITS FALSE NEIGHBOUR: 'it returns false'. Refute it at one input. -/
def bpfAheadWrong : ChangeSpec := { name := "bpfAhead", fn := fun _ => fun
  | [d1, d2, d3] => { results := [.lit (.bool false)], args := [d1, d2, d3] }
  | _ => none }
def BpfAheadWrongFalsely : Prop := bpfAheadRow.holds Try.pinned (OpenSpec.ofChange bpfAheadWrong)

/-- 'rglaw9.ChannelTells': WHATEVER THE INPUT: true; the input reads as it did. -/
def channelTellsSpec : ChangeSpec := { name := "channelTells", fn := fun _ => fun
  | [d1, d2, d3] => { results := [.lit (.bool true)], args := [d1, d2, d3] }
  | _ => none }
def channelTellsRow : OpenClaim := { program := "ytflieebgiejjpaa", sum := "889a854455e26ec43ed6fd6a8e7a5afc91692f181cd973549efec216f167133f", func := "ringfence/rglaw9.ChannelTells", spec := "channelTells", unfollowed := true, recurses := true, apart := false }
def ChannelTellsSaid : Prop := channelTellsRow.holds Try.pinned (OpenSpec.ofChange channelTellsSpec)

/-- ITS FALSE NEIGHBOUR: 'it returns false'. Refute it at one input. -/
def channelTellsWrong : ChangeSpec := { name := "channelTells", fn := fun _ => fun
  | [d1, d2, d3] => { results := [.lit (.bool false)], args := [d1, d2, d3] }
  | _ => none }
def ChannelTellsWrongFalsely : Prop := channelTellsRow.holds Try.pinned (OpenSpec.ofChange channelTellsWrong)

/-- 'rglaw9.ChannelTurns': WHATEVER THE INPUT: true; the input reads as it did. -/
def channelTurnsSpec : ChangeSpec := { name := "channelTurns", fn := fun _ => fun
  | [d1, d2] => { results := [.lit (.bool true)], args := [d1, d2] }
  | _ => none }
def channelTurnsRow : OpenClaim := { program := "ytflieebgiejjpaa", sum := "889a854455e26ec43ed6fd6a8e7a5afc91692f181cd973549efec216f167133f", func := "ringfence/rglaw9.ChannelTurns", spec := "channelTurns", unfollowed := true, recurses := true, apart := false }
def ChannelTurnsSaid : Prop := channelTurnsRow.holds Try.pinned (OpenSpec.ofChange channelTurnsSpec)

/-- ITS FALSE NEIGHBOUR: 'it returns false'. Refute it at one input. -/
def channelTurnsWrong : ChangeSpec := { name := "channelTurns", fn := fun _ => fun
  | [d1, d2] => { results := [.lit (.bool false)], args := [d1, d2] }
  | _ => none }
def ChannelTurnsWrongFalsely : Prop := channelTurnsRow.holds Try.pinned (OpenSpec.ofChange channelTurnsWrong)

/-- 'rglaw9.ChannelFull': WHATEVER THE INPUT: true; the input reads as it did. -/
def channelFullSpec : ChangeSpec := { name := "channelFull", fn := fun _ => fun
  | [d1, d2] => { results := [.lit (.bool true)], args := [d1, d2] }
  | _ => none }
def channelFullRow : OpenClaim := { program := "ytflieebgiejjpaa", sum := "889a854455e26ec43ed6fd6a8e7a5afc91692f181cd973549efec216f167133f", func := "ringfence/rglaw9.ChannelFull", spec := "channelFull", unfollowed := true, recurses := true, apart := false }
def ChannelFullSaid : Prop := channelFullRow.holds Try.pinned (OpenSpec.ofChange channelFullSpec)

/-- ITS FALSE NEIGHBOUR: 'it returns false'. Refute it at one input. -/
def channelFullWrong : ChangeSpec := { name := "channelFull", fn := fun _ => fun
  | [d1, d2] => { results := [.lit (.bool false)], args := [d1, d2] }
  | _ => none }
def ChannelFullWrongFalsely : Prop := channelFullRow.holds Try.pinned (OpenSpec.ofChange channelFullWrong)

/-- 'rglaw8.SweepTells': WHATEVER THE INPUT: true; the input reads as it did. -/
def sweepTellsSpec : ChangeSpec := { name := "sweepTells", fn := fun _ => fun
  | [d] => { results := [.lit (.bool true)], args := [d] }
  | _ => none }
def sweepTellsRow : OpenClaim := { program := "ytflieebgiejjpaa", sum := "889a854455e26ec43ed6fd6a8e7a5afc91692f181cd973549efec216f167133f", func := "ringfence/rglaw8.SweepTells", spec := "sweepTells", unfollowed := true, recurses := true, apart := false }
def SweepTellsSaid : Prop := sweepTellsRow.holds Try.pinned (OpenSpec.ofChange sweepTellsSpec)

/-- ITS FALSE NEIGHBOUR: 'it returns false'. Refute it at one input. -/
def sweepTellsWrong : ChangeSpec := { name := "sweepTells", fn := fun _ => fun
  | [d] => { results := [.lit (.bool false)], args := [d] }
  | _ => none }
def SweepTellsWrongFalsely : Prop := sweepTellsRow.holds Try.pinned (OpenSpec.ofChange sweepTellsWrong)

/- THE SECOND FORM. 'bulk': how many values and letters a reading holds, each counted each time it is reached (what is shared counts as often as it is met; a slice's spare places count too). A statement '..UptoSaid' is the law's where the arguments, and the package variables that the reading takes, are together of bulk at most 1048576: NARROWER than '..Said'. Prove '..Said' where nothing that the law and all that it calls make is longer than what came in: it says more and counts as full. Else prove '..UptoSaid'. A law counts once. -/
mutual
def uptoBulk {H : Type} : DataW H → Nat
  | .lit (.string bytes) => bytes.length + 1
  | .lit _ => 1
  | .nil => 1
  | .ptr d => uptoBulk d + 1
  | .slice elems spare => uptoBulkAll elems + uptoBulkAll spare + 1
  | .agg parts => uptoBulkAll parts + 1
  | .iface _ d => uptoBulk d + 1
  | .map entries => uptoBulkEntries entries + 1
  | .held _ => 1
def uptoBulkAll {H : Type} : List (DataW H) → Nat
  | [] => 0
  | d :: r => uptoBulk d + uptoBulkAll r
def uptoBulkEntries {H : Type} : List (Lit × DataW H) → Nat
  | [] => 0
  | x :: r => uptoBulkEntry x + uptoBulkEntries r
def uptoBulkEntry {H : Type} : Lit × DataW H → Nat
  | (.string bytes, d) => bytes.length + uptoBulk d + 1
  | (_, d) => uptoBulk d + 1
 end
def uptoSmall : (H : Type) → List (DataW H) → Bool := fun _ ds => decide (uptoBulkAll ds ≤ 1048576)
def OpenSpec.upto (s : _root_.Go.ChangeSpec) : _root_.Go.OpenSpec := { _root_.Go.OpenSpec.ofChange s with cond := some uptoSmall }

/-- 'rglaw3.GateTells', WHERE WHAT IT READS IS OF BULK AT MOST 1048576: true; the input reads as it did. -/
def gateTellsUptoRow : OpenClaim := { program := "ytflieebgiejjpaa", sum := "889a854455e26ec43ed6fd6a8e7a5afc91692f181cd973549efec216f167133f", func := "ringfence/rglaw3.GateTells", spec := "gateTells", unfollowed := true, recurses := true, apart := false, narrowed := true }
def GateTellsUptoSaid : Prop := gateTellsUptoRow.holds Try.pinned (OpenSpec.upto gateTellsSpec)

/-- 'rglaw13.FenceTells', WHERE WHAT IT READS IS OF BULK AT MOST 1048576: true; the input reads as it did. -/
def fenceTellsUptoRow : OpenClaim := { program := "ytflieebgiejjpaa", sum := "889a854455e26ec43ed6fd6a8e7a5afc91692f181cd973549efec216f167133f", func := "ringfence/rglaw13.FenceTells", spec := "fenceTells", unfollowed := true, recurses := true, apart := false, narrowed := true }
def FenceTellsUptoSaid : Prop := fenceTellsUptoRow.holds Try.pinned (OpenSpec.upto fenceTellsSpec)

/-- 'rglaw7.TableTells', WHERE WHAT IT READS IS OF BULK AT MOST 1048576: true; the input reads as it did. -/
def tableTellsUptoRow : OpenClaim := { program := "ytflieebgiejjpaa", sum := "889a854455e26ec43ed6fd6a8e7a5afc91692f181cd973549efec216f167133f", func := "ringfence/rglaw7.TableTells", spec := "tableTells", unfollowed := true, recurses := true, apart := false, narrowed := true }
def TableTellsUptoSaid : Prop := tableTellsUptoRow.holds Try.pinned (OpenSpec.upto tableTellsSpec)

/-- 'rglaw7.TableLess', WHERE WHAT IT READS IS OF BULK AT MOST 1048576: true; the input reads as it did. -/
def tableLessUptoRow : OpenClaim := { program := "ytflieebgiejjpaa", sum := "889a854455e26ec43ed6fd6a8e7a5afc91692f181cd973549efec216f167133f", func := "ringfence/rglaw7.TableLess", spec := "tableLess", unfollowed := true, recurses := true, apart := false, narrowed := true }
def TableLessUptoSaid : Prop := tableLessUptoRow.holds Try.pinned (OpenSpec.upto tableLessSpec)

/-- 'rglaw2.BpfTells', WHERE WHAT IT READS IS OF BULK AT MOST 1048576: true; the input reads as it did. -/
def bpfTellsUptoRow : OpenClaim := { program := "ytflieebgiejjpaa", sum := "889a854455e26ec43ed6fd6a8e7a5afc91692f181cd973549efec216f167133f", func := "ringfence/rglaw2.BpfTells", spec := "bpfTells", recurses := true, apart := false, narrowed := true }
def BpfTellsUptoSaid : Prop := bpfTellsUptoRow.holds Try.pinned (OpenSpec.upto bpfTellsSpec)

/-- 'rglaw2.BpfEnds', WHERE WHAT IT READS IS OF BULK AT MOST 1048576: true; the input reads as it did. -/
def bpfEndsUptoRow : OpenClaim := { program := "ytflieebgiejjpaa", sum := "889a854455e26ec43ed6fd6a8e7a5afc91692f181cd973549efec216f167133f", func := "ringfence/rglaw2.BpfEnds", spec := "bpfEnds", apart := false, narrowed := true }
def BpfEndsUptoSaid : Prop := bpfEndsUptoRow.holds Try.pinned (OpenSpec.upto bpfEndsSpec)

/-- 'rglaw2.BpfTurns', WHERE WHAT IT READS IS OF BULK AT MOST 1048576: true; the input reads as it did. -/
def bpfTurnsUptoRow : OpenClaim := { program := "ytflieebgiejjpaa", sum := "889a854455e26ec43ed6fd6a8e7a5afc91692f181cd973549efec216f167133f", func := "ringfence/rglaw2.BpfTurns", spec := "bpfTurns", apart := false, narrowed := true }
def BpfTurnsUptoSaid : Prop := bpfTurnsUptoRow.holds Try.pinned (OpenSpec.upto bpfTurnsSpec)

/-- 'rglaw2.BpfAhead', WHERE WHAT IT READS IS OF BULK AT MOST 1048576: true; the input reads as it did. -/
def bpfAheadUptoRow : OpenClaim := { program := "ytflieebgiejjpaa", sum := "889a854455e26ec43ed6fd6a8e7a5afc91692f181cd973549efec216f167133f", func := "ringfence/rglaw2.BpfAhead", spec := "bpfAhead", apart := false, narrowed := true }
def BpfAheadUptoSaid : Prop := bpfAheadUptoRow.holds Try.pinned (OpenSpec.upto bpfAheadSpec)

/-- 'rglaw9.ChannelTells', WHERE WHAT IT READS IS OF BULK AT MOST 1048576: true; the input reads as it did. -/
def channelTellsUptoRow : OpenClaim := { program := "ytflieebgiejjpaa", sum := "889a854455e26ec43ed6fd6a8e7a5afc91692f181cd973549efec216f167133f", func := "ringfence/rglaw9.ChannelTells", spec := "channelTells", unfollowed := true, recurses := true, apart := false, narrowed := true }
def ChannelTellsUptoSaid : Prop := channelTellsUptoRow.holds Try.pinned (OpenSpec.upto channelTellsSpec)

/-- 'rglaw9.ChannelTurns', WHERE WHAT IT READS IS OF BULK AT MOST 1048576: true; the input reads as it did. -/
def channelTurnsUptoRow : OpenClaim := { program := "ytflieebgiejjpaa", sum := "889a854455e26ec43ed6fd6a8e7a5afc91692f181cd973549efec216f167133f", func := "ringfence/rglaw9.ChannelTurns", spec := "channelTurns", unfollowed := true, recurses := true, apart := false, narrowed := true }
def ChannelTurnsUptoSaid : Prop := channelTurnsUptoRow.holds Try.pinned (OpenSpec.upto channelTurnsSpec)

/-- 'rglaw9.ChannelFull', WHERE WHAT IT READS IS OF BULK AT MOST 1048576: true; the input reads as it did. -/
def channelFullUptoRow : OpenClaim := { program := "ytflieebgiejjpaa", sum := "889a854455e26ec43ed6fd6a8e7a5afc91692f181cd973549efec216f167133f", func := "ringfence/rglaw9.ChannelFull", spec := "channelFull", unfollowed := true, recurses := true, apart := false, narrowed := true }
def ChannelFullUptoSaid : Prop := channelFullUptoRow.holds Try.pinned (OpenSpec.upto channelFullSpec)

/-- 'rglaw8.SweepTells', WHERE WHAT IT READS IS OF BULK AT MOST 1048576: true; the input reads as it did. -/
def sweepTellsUptoRow : OpenClaim := { program := "ytflieebgiejjpaa", sum := "889a854455e26ec43ed6fd6a8e7a5afc91692f181cd973549efec216f167133f", func := "ringfence/rglaw8.SweepTells", spec := "sweepTells", unfollowed := true, recurses := true, apart := false, narrowed := true }
def SweepTellsUptoSaid : Prop := sweepTellsUptoRow.holds Try.pinned (OpenSpec.upto sweepTellsSpec)

end Rows
end Go.Proofs.Ytflieebgiejjpaa
