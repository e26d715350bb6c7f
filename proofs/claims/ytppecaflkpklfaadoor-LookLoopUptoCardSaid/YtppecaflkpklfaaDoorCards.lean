/-
  DERIVED. GIVEN WITH THE SEED: THE CARDS: each row of YtppecaflkpklfaaDoorRows.lean that lists a variable, with what it lists TIED to the program's text (the seventh form; the later family's looks); each row that meets fmt, with fmt's text TOLD by the authors' own Lean function (tested against real Go, not proved from fmt's source: count such statements apart). THE CARD IS WHAT COUNTS. Prove the row's statement (the work); the ties are given (YtppecaflkpklfaaDoorTie.lean); close each card by the builder's one call (the guide's Derived/Test/ToyasCard.lean, 'card_holds'). Laid BY PROGRAM, IN A SANDBOX (cutbox-door.mjs). By AI agents, Wed Nov 11 2026. No macro, syntax, notation, axiom, sorry.
-/
import Derived.Test.YtppecaflkpklfaaDoorRows
import GoSem.ClaimSeven
namespace Go.Proofs.YtppecaflkpklfaaDoor
namespace Rows

/-- THE TIED CARD OF 'rglaw6.LookTells'. -/
def lookTellsCard : Claim7 := { stood := { row := lookTellsRow, standIns := [], harness := (true, "a8e6ef5d1b38693a3adb898f7af4d35b6705a829cb0eafd0e80fa97451ddf3a9"), looks := false }, kinds := [], alts := [], laidByText := true, laidKinds := [.data, .pinned], laidTests := true, laidLooks := .later }
def LookTellsCardSaid : Prop := Claim7.holds Tryd.pinned (.plain (OpenSpec.ofChange lookTellsSpec)) lookTellsCard

/-- THE TIED CARD OF 'rglaw6.LookBeneath'. -/
def lookBeneathCard : Claim7 := { stood := { row := lookBeneathRow, standIns := [], harness := (true, "a8e6ef5d1b38693a3adb898f7af4d35b6705a829cb0eafd0e80fa97451ddf3a9"), looks := false }, kinds := [], alts := [], laidByText := true, laidKinds := [.data, .pinned], laidTests := true, laidLooks := .later }
def LookBeneathCardSaid : Prop := Claim7.holds Tryd.pinned (.plain (OpenSpec.ofChange lookBeneathSpec)) lookBeneathCard

/-- THE TIED CARD OF 'rglaw6.LookSame'. -/
def lookSameCard : Claim7 := { stood := { row := lookSameRow, standIns := [], harness := (true, "a8e6ef5d1b38693a3adb898f7af4d35b6705a829cb0eafd0e80fa97451ddf3a9"), looks := false }, kinds := [], alts := [], laidByText := true, laidKinds := [.data, .pinned], laidTests := true, laidLooks := .later }
def LookSameCardSaid : Prop := Claim7.holds Tryd.pinned (.plain (OpenSpec.ofChange lookSameSpec)) lookSameCard

/-- THE TIED CARD OF 'rglaw6.LookStep'. -/
def lookStepCard : Claim7 := { stood := { row := lookStepRow, standIns := [], harness := (true, "a8e6ef5d1b38693a3adb898f7af4d35b6705a829cb0eafd0e80fa97451ddf3a9"), looks := false }, kinds := [], alts := [], laidByText := true, laidKinds := [.data, .pinned], laidTests := true, laidLooks := .later }
def LookStepCardSaid : Prop := Claim7.holds Tryd.pinned (.plain (OpenSpec.ofChange lookStepSpec)) lookStepCard

/-- THE TIED CARD OF 'rglaw6.LookLoop'. -/
def lookLoopCard : Claim7 := { stood := { row := lookLoopRow, standIns := [], harness := (true, "a8e6ef5d1b38693a3adb898f7af4d35b6705a829cb0eafd0e80fa97451ddf3a9"), looks := false }, kinds := [], alts := [], laidByText := true, laidKinds := [.data, .pinned], laidTests := true, laidLooks := .later }
def LookLoopCardSaid : Prop := Claim7.holds Tryd.pinned (.plain (OpenSpec.ofChange lookLoopSpec)) lookLoopCard

/-- THE SECOND FORM's CARD OF 'rglaw6.LookTells'. -/
def lookTellsUptoCard : Claim7 := { stood := { row := lookTellsUptoRow, standIns := [], harness := (true, "a8e6ef5d1b38693a3adb898f7af4d35b6705a829cb0eafd0e80fa97451ddf3a9"), looks := false }, kinds := [], alts := [], laidByText := true, laidKinds := [.data, .pinned], laidTests := true, laidLooks := .later }
def LookTellsUptoCardSaid : Prop := Claim7.holds Tryd.pinned (.plain (OpenSpec.upto lookTellsSpec)) lookTellsUptoCard

/-- THE SECOND FORM's CARD OF 'rglaw6.LookBeneath'. -/
def lookBeneathUptoCard : Claim7 := { stood := { row := lookBeneathUptoRow, standIns := [], harness := (true, "a8e6ef5d1b38693a3adb898f7af4d35b6705a829cb0eafd0e80fa97451ddf3a9"), looks := false }, kinds := [], alts := [], laidByText := true, laidKinds := [.data, .pinned], laidTests := true, laidLooks := .later }
def LookBeneathUptoCardSaid : Prop := Claim7.holds Tryd.pinned (.plain (OpenSpec.upto lookBeneathSpec)) lookBeneathUptoCard

/-- THE SECOND FORM's CARD OF 'rglaw6.LookSame'. -/
def lookSameUptoCard : Claim7 := { stood := { row := lookSameUptoRow, standIns := [], harness := (true, "a8e6ef5d1b38693a3adb898f7af4d35b6705a829cb0eafd0e80fa97451ddf3a9"), looks := false }, kinds := [], alts := [], laidByText := true, laidKinds := [.data, .pinned], laidTests := true, laidLooks := .later }
def LookSameUptoCardSaid : Prop := Claim7.holds Tryd.pinned (.plain (OpenSpec.upto lookSameSpec)) lookSameUptoCard

/-- THE SECOND FORM's CARD OF 'rglaw6.LookStep'. -/
def lookStepUptoCard : Claim7 := { stood := { row := lookStepUptoRow, standIns := [], harness := (true, "a8e6ef5d1b38693a3adb898f7af4d35b6705a829cb0eafd0e80fa97451ddf3a9"), looks := false }, kinds := [], alts := [], laidByText := true, laidKinds := [.data, .pinned], laidTests := true, laidLooks := .later }
def LookStepUptoCardSaid : Prop := Claim7.holds Tryd.pinned (.plain (OpenSpec.upto lookStepSpec)) lookStepUptoCard

/-- THE SECOND FORM's CARD OF 'rglaw6.LookLoop'. -/
def lookLoopUptoCard : Claim7 := { stood := { row := lookLoopUptoRow, standIns := [], harness := (true, "a8e6ef5d1b38693a3adb898f7af4d35b6705a829cb0eafd0e80fa97451ddf3a9"), looks := false }, kinds := [], alts := [], laidByText := true, laidKinds := [.data, .pinned], laidTests := true, laidLooks := .later }
def LookLoopUptoCardSaid : Prop := Claim7.holds Tryd.pinned (.plain (OpenSpec.upto lookLoopSpec)) lookLoopUptoCard
end Rows
end Go.Proofs.YtppecaflkpklfaaDoor
