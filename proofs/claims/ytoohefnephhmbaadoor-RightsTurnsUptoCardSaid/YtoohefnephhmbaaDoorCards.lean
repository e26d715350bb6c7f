/-
  DERIVED. GIVEN WITH THE SEED: THE CARDS: each row of YtoohefnephhmbaaDoorRows.lean that lists a variable, with what it lists TIED to the program's text (the seventh form; the later family's looks); each row that meets fmt, with fmt's text TOLD by the authors' own Lean function (tested against real Go, not proved from fmt's source: count such statements apart). THE CARD IS WHAT COUNTS. Prove the row's statement (the work); the ties are given (YtoohefnephhmbaaDoorTie.lean); close each card by the builder's one call (the guide's Derived/Test/ToyasCard.lean, 'card_holds'). Laid BY PROGRAM, IN A SANDBOX (cutbox-door.mjs). By AI agents, Wed Nov 11 2026. No macro, syntax, notation, axiom, sorry.
-/
import Derived.Test.YtoohefnephhmbaaDoorRows
import GoSem.ClaimSeven
namespace Go.Proofs.YtoohefnephhmbaaDoor
namespace Rows

/-- THE TIED CARD OF 'rglaw4.PathTells'. -/
def pathTellsCard : Claim7 := { stood := { row := pathTellsRow, standIns := [], harness := (true, "9619f2c01dbb2c007cc4776f0b199d5a6aa47860ab680647ecb4f7e4b5d68ccc"), looks := false }, kinds := [], alts := [], laidByText := true, laidKinds := [.data, .pinned], laidTests := true, laidLooks := .later }
def PathTellsCardSaid : Prop := Claim7.holds Tryd.pinned (.plain (OpenSpec.ofChange pathTellsSpec)) pathTellsCard

/-- THE TIED CARD OF 'rglaw4.PathTurns'. -/
def pathTurnsCard : Claim7 := { stood := { row := pathTurnsRow, standIns := [], harness := (true, "9619f2c01dbb2c007cc4776f0b199d5a6aa47860ab680647ecb4f7e4b5d68ccc"), looks := false }, kinds := [], alts := [], laidByText := true, laidKinds := [.data, .pinned], laidTests := true, laidLooks := .later }
def PathTurnsCardSaid : Prop := Claim7.holds Tryd.pinned (.plain (OpenSpec.ofChange pathTurnsSpec)) pathTurnsCard

/-- THE TIED CARD OF 'rglaw4.PathDepth'. -/
def pathDepthCard : Claim7 := { stood := { row := pathDepthRow, standIns := [], harness := (true, "9619f2c01dbb2c007cc4776f0b199d5a6aa47860ab680647ecb4f7e4b5d68ccc"), looks := false }, kinds := [], alts := [], laidByText := true, laidKinds := [.data, .pinned], laidTests := true, laidLooks := .later }
def PathDepthCardSaid : Prop := Claim7.holds Tryd.pinned (.plain (OpenSpec.ofChange pathDepthSpec)) pathDepthCard

/-- THE TIED CARD OF 'rglaw1.RightsTells'. -/
def rightsTellsCard : Claim7 := { stood := { row := rightsTellsRow, standIns := [], harness := (true, "9619f2c01dbb2c007cc4776f0b199d5a6aa47860ab680647ecb4f7e4b5d68ccc"), looks := false }, kinds := [], alts := [], laidByText := true, laidKinds := [.data, .pinned], laidTests := true, laidLooks := .later }
def RightsTellsCardSaid : Prop := Claim7.holds Tryd.pinned (.plain (OpenSpec.ofChange rightsTellsSpec)) rightsTellsCard

/-- THE TIED CARD OF 'rglaw1.RightsOrder'. -/
def rightsOrderCard : Claim7 := { stood := { row := rightsOrderRow, standIns := [], harness := (true, "9619f2c01dbb2c007cc4776f0b199d5a6aa47860ab680647ecb4f7e4b5d68ccc"), looks := false }, kinds := [], alts := [], laidByText := true, laidKinds := [.data, .pinned], laidTests := true, laidLooks := .later }
def RightsOrderCardSaid : Prop := Claim7.holds Tryd.pinned (.plain (OpenSpec.ofChange rightsOrderSpec)) rightsOrderCard

/-- THE TIED CARD OF 'rglaw1.RightsTurns'. -/
def rightsTurnsCard : Claim7 := { stood := { row := rightsTurnsRow, standIns := [], harness := (true, "9619f2c01dbb2c007cc4776f0b199d5a6aa47860ab680647ecb4f7e4b5d68ccc"), looks := false }, kinds := [], alts := [], laidByText := true, laidKinds := [.data, .pinned], laidTests := true, laidLooks := .later }
def RightsTurnsCardSaid : Prop := Claim7.holds Tryd.pinned (.plain (OpenSpec.ofChange rightsTurnsSpec)) rightsTurnsCard

/-- THE SECOND FORM's CARD OF 'rglaw4.PathTells'. -/
def pathTellsUptoCard : Claim7 := { stood := { row := pathTellsUptoRow, standIns := [], harness := (true, "9619f2c01dbb2c007cc4776f0b199d5a6aa47860ab680647ecb4f7e4b5d68ccc"), looks := false }, kinds := [], alts := [], laidByText := true, laidKinds := [.data, .pinned], laidTests := true, laidLooks := .later }
def PathTellsUptoCardSaid : Prop := Claim7.holds Tryd.pinned (.plain (OpenSpec.upto pathTellsSpec)) pathTellsUptoCard

/-- THE SECOND FORM's CARD OF 'rglaw4.PathTurns'. -/
def pathTurnsUptoCard : Claim7 := { stood := { row := pathTurnsUptoRow, standIns := [], harness := (true, "9619f2c01dbb2c007cc4776f0b199d5a6aa47860ab680647ecb4f7e4b5d68ccc"), looks := false }, kinds := [], alts := [], laidByText := true, laidKinds := [.data, .pinned], laidTests := true, laidLooks := .later }
def PathTurnsUptoCardSaid : Prop := Claim7.holds Tryd.pinned (.plain (OpenSpec.upto pathTurnsSpec)) pathTurnsUptoCard

/-- THE SECOND FORM's CARD OF 'rglaw4.PathDepth'. -/
def pathDepthUptoCard : Claim7 := { stood := { row := pathDepthUptoRow, standIns := [], harness := (true, "9619f2c01dbb2c007cc4776f0b199d5a6aa47860ab680647ecb4f7e4b5d68ccc"), looks := false }, kinds := [], alts := [], laidByText := true, laidKinds := [.data, .pinned], laidTests := true, laidLooks := .later }
def PathDepthUptoCardSaid : Prop := Claim7.holds Tryd.pinned (.plain (OpenSpec.upto pathDepthSpec)) pathDepthUptoCard

/-- THE SECOND FORM's CARD OF 'rglaw1.RightsTells'. -/
def rightsTellsUptoCard : Claim7 := { stood := { row := rightsTellsUptoRow, standIns := [], harness := (true, "9619f2c01dbb2c007cc4776f0b199d5a6aa47860ab680647ecb4f7e4b5d68ccc"), looks := false }, kinds := [], alts := [], laidByText := true, laidKinds := [.data, .pinned], laidTests := true, laidLooks := .later }
def RightsTellsUptoCardSaid : Prop := Claim7.holds Tryd.pinned (.plain (OpenSpec.upto rightsTellsSpec)) rightsTellsUptoCard

/-- THE SECOND FORM's CARD OF 'rglaw1.RightsOrder'. -/
def rightsOrderUptoCard : Claim7 := { stood := { row := rightsOrderUptoRow, standIns := [], harness := (true, "9619f2c01dbb2c007cc4776f0b199d5a6aa47860ab680647ecb4f7e4b5d68ccc"), looks := false }, kinds := [], alts := [], laidByText := true, laidKinds := [.data, .pinned], laidTests := true, laidLooks := .later }
def RightsOrderUptoCardSaid : Prop := Claim7.holds Tryd.pinned (.plain (OpenSpec.upto rightsOrderSpec)) rightsOrderUptoCard

/-- THE SECOND FORM's CARD OF 'rglaw1.RightsTurns'. -/
def rightsTurnsUptoCard : Claim7 := { stood := { row := rightsTurnsUptoRow, standIns := [], harness := (true, "9619f2c01dbb2c007cc4776f0b199d5a6aa47860ab680647ecb4f7e4b5d68ccc"), looks := false }, kinds := [], alts := [], laidByText := true, laidKinds := [.data, .pinned], laidTests := true, laidLooks := .later }
def RightsTurnsUptoCardSaid : Prop := Claim7.holds Tryd.pinned (.plain (OpenSpec.upto rightsTurnsSpec)) rightsTurnsUptoCard
end Rows
end Go.Proofs.YtoohefnephhmbaaDoor
