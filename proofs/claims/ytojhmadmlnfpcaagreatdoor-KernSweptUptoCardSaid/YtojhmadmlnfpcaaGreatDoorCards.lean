/-
  DERIVED. GIVEN WITH THE SEED: THE CARDS: each row of YtojhmadmlnfpcaaGreatDoorRows.lean that lists a variable, with what it lists TIED to the program's text (the seventh form; the later family's looks); each row that meets fmt, with fmt's text TOLD by the authors' own Lean function (tested against real Go, not proved from fmt's source: count such statements apart). THE CARD IS WHAT COUNTS. Prove the row's statement (the work); the ties are given (YtojhmadmlnfpcaaGreatDoorTie.lean); close each card by the builder's one call (the guide's Derived/Test/ToyasCard.lean, 'card_holds'). Laid BY PROGRAM, IN A SANDBOX (cutbox-door.mjs). By AI agents, Wed Nov 11 2026. No macro, syntax, notation, axiom, sorry.
-/
import Derived.Test.YtojhmadmlnfpcaaGreatDoorRows
import GoSem.ClaimSeven
namespace Go.Proofs.YtojhmadmlnfpcaaGreatDoor
namespace Rows

/-- THE TIED CARD OF 'rglaw11.KernRefused'. -/
def kernRefusedCard : Claim7 := { stood := { row := kernRefusedRow, standIns := [], harness := (true, "25c9ef5c1c878111a4315b66c428519c00538c007d08a623e32eb041091fb134"), looks := false }, kinds := [], alts := [], laidByText := true, laidKinds := [.data, .pinned], laidTests := true, laidLooks := .later }
def KernRefusedCardSaid : Prop := Claim7.holds Tryz.pinned (.plain (OpenSpec.ofChange kernRefusedSpec)) kernRefusedCard

/-- THE TIED CARD OF 'rglaw11.KernSwept'. -/
def kernSweptCard : Claim7 := { stood := { row := kernSweptRow, standIns := [], harness := (true, "25c9ef5c1c878111a4315b66c428519c00538c007d08a623e32eb041091fb134"), looks := false }, kinds := [], alts := [], laidByText := true, laidKinds := [.data, .pinned], laidTests := true, laidLooks := .later }
def KernSweptCardSaid : Prop := Claim7.holds Tryz.pinned (.plain (OpenSpec.ofChange kernSweptSpec)) kernSweptCard

/-- THE TIED CARD OF 'rglaw11.KernFence'. -/
def kernFenceCard : Claim7 := { stood := { row := kernFenceRow, standIns := [], harness := (true, "25c9ef5c1c878111a4315b66c428519c00538c007d08a623e32eb041091fb134"), looks := false }, kinds := [], alts := [], laidByText := true, laidKinds := [.data, .pinned], laidTests := true, laidLooks := .later }
def KernFenceCardSaid : Prop := Claim7.holds Tryz.pinned (.plain (OpenSpec.ofChange kernFenceSpec)) kernFenceCard

/-- THE TIED CARD OF 'rglaw11.KernGate'. -/
def kernGateCard : Claim7 := { stood := { row := kernGateRow, standIns := [], harness := (true, "25c9ef5c1c878111a4315b66c428519c00538c007d08a623e32eb041091fb134"), looks := false }, kinds := [], alts := [], laidByText := true, laidKinds := [.data, .pinned], laidTests := true, laidLooks := .later }
def KernGateCardSaid : Prop := Claim7.holds Tryz.pinned (.plain (OpenSpec.ofChange kernGateSpec)) kernGateCard

/-- THE TIED CARD OF 'rglaw11.KernRights'. -/
def kernRightsCard : Claim7 := { stood := { row := kernRightsRow, standIns := [], harness := (true, "25c9ef5c1c878111a4315b66c428519c00538c007d08a623e32eb041091fb134"), looks := false }, kinds := [], alts := [], laidByText := true, laidKinds := [.data, .pinned], laidTests := true, laidLooks := .later }
def KernRightsCardSaid : Prop := Claim7.holds Tryz.pinned (.plain (OpenSpec.ofChange kernRightsSpec)) kernRightsCard

/-- THE SECOND FORM's CARD OF 'rglaw11.KernRefused'. -/
def kernRefusedUptoCard : Claim7 := { stood := { row := kernRefusedUptoRow, standIns := [], harness := (true, "25c9ef5c1c878111a4315b66c428519c00538c007d08a623e32eb041091fb134"), looks := false }, kinds := [], alts := [], laidByText := true, laidKinds := [.data, .pinned], laidTests := true, laidLooks := .later }
def KernRefusedUptoCardSaid : Prop := Claim7.holds Tryz.pinned (.plain (OpenSpec.upto kernRefusedSpec)) kernRefusedUptoCard

/-- THE SECOND FORM's CARD OF 'rglaw11.KernSwept'. -/
def kernSweptUptoCard : Claim7 := { stood := { row := kernSweptUptoRow, standIns := [], harness := (true, "25c9ef5c1c878111a4315b66c428519c00538c007d08a623e32eb041091fb134"), looks := false }, kinds := [], alts := [], laidByText := true, laidKinds := [.data, .pinned], laidTests := true, laidLooks := .later }
def KernSweptUptoCardSaid : Prop := Claim7.holds Tryz.pinned (.plain (OpenSpec.upto kernSweptSpec)) kernSweptUptoCard

/-- THE SECOND FORM's CARD OF 'rglaw11.KernFence'. -/
def kernFenceUptoCard : Claim7 := { stood := { row := kernFenceUptoRow, standIns := [], harness := (true, "25c9ef5c1c878111a4315b66c428519c00538c007d08a623e32eb041091fb134"), looks := false }, kinds := [], alts := [], laidByText := true, laidKinds := [.data, .pinned], laidTests := true, laidLooks := .later }
def KernFenceUptoCardSaid : Prop := Claim7.holds Tryz.pinned (.plain (OpenSpec.upto kernFenceSpec)) kernFenceUptoCard

/-- THE SECOND FORM's CARD OF 'rglaw11.KernGate'. -/
def kernGateUptoCard : Claim7 := { stood := { row := kernGateUptoRow, standIns := [], harness := (true, "25c9ef5c1c878111a4315b66c428519c00538c007d08a623e32eb041091fb134"), looks := false }, kinds := [], alts := [], laidByText := true, laidKinds := [.data, .pinned], laidTests := true, laidLooks := .later }
def KernGateUptoCardSaid : Prop := Claim7.holds Tryz.pinned (.plain (OpenSpec.upto kernGateSpec)) kernGateUptoCard

/-- THE SECOND FORM's CARD OF 'rglaw11.KernRights'. -/
def kernRightsUptoCard : Claim7 := { stood := { row := kernRightsUptoRow, standIns := [], harness := (true, "25c9ef5c1c878111a4315b66c428519c00538c007d08a623e32eb041091fb134"), looks := false }, kinds := [], alts := [], laidByText := true, laidKinds := [.data, .pinned], laidTests := true, laidLooks := .later }
def KernRightsUptoCardSaid : Prop := Claim7.holds Tryz.pinned (.plain (OpenSpec.upto kernRightsSpec)) kernRightsUptoCard
end Rows
end Go.Proofs.YtojhmadmlnfpcaaGreatDoor
