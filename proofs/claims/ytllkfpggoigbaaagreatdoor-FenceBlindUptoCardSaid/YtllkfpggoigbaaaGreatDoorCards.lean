/-
  DERIVED. GIVEN WITH THE SEED: THE CARDS: each row of YtllkfpggoigbaaaGreatDoorRows.lean that lists a variable, with what it lists TIED to the program's text (the seventh form; the later family's looks); each row that meets fmt, with fmt's text TOLD by the authors' own Lean function (tested against real Go, not proved from fmt's source: count such statements apart). THE CARD IS WHAT COUNTS. Prove the row's statement (the work); the ties are given (YtllkfpggoigbaaaGreatDoorTie.lean); close each card by the builder's one call (the guide's Derived/Test/ToyasCard.lean, 'card_holds'). Laid BY PROGRAM, IN A SANDBOX (cutbox-door.mjs). By AI agents, Wed Nov 11 2026. No macro, syntax, notation, axiom, sorry.
-/
import Derived.Test.YtllkfpggoigbaaaGreatDoorRows
import GoSem.ClaimSeven
namespace Go.Proofs.YtllkfpggoigbaaaGreatDoor
namespace Rows

/-- THE TIED CARD OF 'rglaw13.FenceHolds'. -/
def fenceHoldsCard : Claim7 := { stood := { row := fenceHoldsRow, standIns := [], harness := (true, "84891037e12c96e8fd3d672c9acee0b468e767cfe1e543192a0c497915f6259b"), looks := false }, kinds := [], alts := [], laidByText := true, laidKinds := [.data, .pinned], laidTests := true, laidLooks := .later }
def FenceHoldsCardSaid : Prop := Claim7.holds Tryz.pinned (.plain (OpenSpec.ofChange fenceHoldsSpec)) fenceHoldsCard

/-- THE TIED CARD OF 'rglaw13.FenceBlind'. -/
def fenceBlindCard : Claim7 := { stood := { row := fenceBlindRow, standIns := [], harness := (true, "84891037e12c96e8fd3d672c9acee0b468e767cfe1e543192a0c497915f6259b"), looks := false }, kinds := [], alts := [], laidByText := true, laidKinds := [.data, .pinned], laidTests := true, laidLooks := .later }
def FenceBlindCardSaid : Prop := Claim7.holds Tryz.pinned (.plain (OpenSpec.ofChange fenceBlindSpec)) fenceBlindCard

/-- THE SECOND FORM's CARD OF 'rglaw13.FenceHolds'. -/
def fenceHoldsUptoCard : Claim7 := { stood := { row := fenceHoldsUptoRow, standIns := [], harness := (true, "84891037e12c96e8fd3d672c9acee0b468e767cfe1e543192a0c497915f6259b"), looks := false }, kinds := [], alts := [], laidByText := true, laidKinds := [.data, .pinned], laidTests := true, laidLooks := .later }
def FenceHoldsUptoCardSaid : Prop := Claim7.holds Tryz.pinned (.plain (OpenSpec.upto fenceHoldsSpec)) fenceHoldsUptoCard

/-- THE SECOND FORM's CARD OF 'rglaw13.FenceBlind'. -/
def fenceBlindUptoCard : Claim7 := { stood := { row := fenceBlindUptoRow, standIns := [], harness := (true, "84891037e12c96e8fd3d672c9acee0b468e767cfe1e543192a0c497915f6259b"), looks := false }, kinds := [], alts := [], laidByText := true, laidKinds := [.data, .pinned], laidTests := true, laidLooks := .later }
def FenceBlindUptoCardSaid : Prop := Claim7.holds Tryz.pinned (.plain (OpenSpec.upto fenceBlindSpec)) fenceBlindUptoCard
end Rows
end Go.Proofs.YtllkfpggoigbaaaGreatDoor
