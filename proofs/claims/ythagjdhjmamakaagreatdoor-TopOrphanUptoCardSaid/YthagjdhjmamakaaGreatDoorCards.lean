/-
  DERIVED. GIVEN WITH THE SEED: THE CARDS: each row of YthagjdhjmamakaaGreatDoorRows.lean that lists a variable, with what it lists TIED to the program's text (the seventh form; the later family's looks); each row that meets fmt, with fmt's text TOLD by the authors' own Lean function (tested against real Go, not proved from fmt's source: count such statements apart). THE CARD IS WHAT COUNTS. Prove the row's statement (the work); the ties are given (YthagjdhjmamakaaGreatDoorTie.lean); close each card by the builder's one call (the guide's Derived/Test/ToyasCard.lean, 'card_holds'). Laid BY PROGRAM, IN A SANDBOX (cutbox-door.mjs). By AI agents, Wed Nov 11 2026. No macro, syntax, notation, axiom, sorry.
-/
import Derived.Test.YthagjdhjmamakaaGreatDoorRows
import GoSem.ClaimSeven
namespace Go.Proofs.YthagjdhjmamakaaGreatDoor
namespace Rows

/-- THE TIED CARD OF 'rgtop.TopJail'. -/
def topJailCard : Claim7 := { stood := { row := topJailRow, standIns := [], harness := (true, "255b711cb93398ece4c23c8333820939dfb19ec21cd2d0e01a8974653235352b"), looks := false }, kinds := [], alts := [], laidByText := true, laidKinds := [.data, .pinned], laidTests := true, laidLooks := .later }
def TopJailCardSaid : Prop := Claim7.holds Tryz.pinned (.plain (OpenSpec.ofChange topJailSpec)) topJailCard

/-- THE TIED CARD OF 'rgtop.TopShare'. -/
def topShareCard : Claim7 := { stood := { row := topShareRow, standIns := [], harness := (true, "255b711cb93398ece4c23c8333820939dfb19ec21cd2d0e01a8974653235352b"), looks := false }, kinds := [], alts := [], laidByText := true, laidKinds := [.data, .pinned], laidTests := true, laidLooks := .later }
def TopShareCardSaid : Prop := Claim7.holds Tryz.pinned (.plain (OpenSpec.ofChange topShareSpec)) topShareCard

/-- THE TIED CARD OF 'rgtop.TopPass'. -/
def topPassCard : Claim7 := { stood := { row := topPassRow, standIns := [], harness := (true, "255b711cb93398ece4c23c8333820939dfb19ec21cd2d0e01a8974653235352b"), looks := false }, kinds := [], alts := [], laidByText := true, laidKinds := [.data, .pinned], laidTests := true, laidLooks := .later }
def TopPassCardSaid : Prop := Claim7.holds Tryz.pinned (.plain (OpenSpec.ofChange topPassSpec)) topPassCard

/-- THE TIED CARD OF 'rgtop.TopGone'. -/
def topGoneCard : Claim7 := { stood := { row := topGoneRow, standIns := [], harness := (true, "255b711cb93398ece4c23c8333820939dfb19ec21cd2d0e01a8974653235352b"), looks := false }, kinds := [], alts := [], laidByText := true, laidKinds := [.data, .pinned], laidTests := true, laidLooks := .later }
def TopGoneCardSaid : Prop := Claim7.holds Tryz.pinned (.plain (OpenSpec.ofChange topGoneSpec)) topGoneCard

/-- THE TIED CARD OF 'rgtop.TopOrphan'. -/
def topOrphanCard : Claim7 := { stood := { row := topOrphanRow, standIns := [], harness := (true, "255b711cb93398ece4c23c8333820939dfb19ec21cd2d0e01a8974653235352b"), looks := false }, kinds := [], alts := [], laidByText := true, laidKinds := [.data, .pinned], laidTests := true, laidLooks := .later }
def TopOrphanCardSaid : Prop := Claim7.holds Tryz.pinned (.plain (OpenSpec.ofChange topOrphanSpec)) topOrphanCard

/-- THE SECOND FORM's CARD OF 'rgtop.TopJail'. -/
def topJailUptoCard : Claim7 := { stood := { row := topJailUptoRow, standIns := [], harness := (true, "255b711cb93398ece4c23c8333820939dfb19ec21cd2d0e01a8974653235352b"), looks := false }, kinds := [], alts := [], laidByText := true, laidKinds := [.data, .pinned], laidTests := true, laidLooks := .later }
def TopJailUptoCardSaid : Prop := Claim7.holds Tryz.pinned (.plain (OpenSpec.upto topJailSpec)) topJailUptoCard

/-- THE SECOND FORM's CARD OF 'rgtop.TopShare'. -/
def topShareUptoCard : Claim7 := { stood := { row := topShareUptoRow, standIns := [], harness := (true, "255b711cb93398ece4c23c8333820939dfb19ec21cd2d0e01a8974653235352b"), looks := false }, kinds := [], alts := [], laidByText := true, laidKinds := [.data, .pinned], laidTests := true, laidLooks := .later }
def TopShareUptoCardSaid : Prop := Claim7.holds Tryz.pinned (.plain (OpenSpec.upto topShareSpec)) topShareUptoCard

/-- THE SECOND FORM's CARD OF 'rgtop.TopPass'. -/
def topPassUptoCard : Claim7 := { stood := { row := topPassUptoRow, standIns := [], harness := (true, "255b711cb93398ece4c23c8333820939dfb19ec21cd2d0e01a8974653235352b"), looks := false }, kinds := [], alts := [], laidByText := true, laidKinds := [.data, .pinned], laidTests := true, laidLooks := .later }
def TopPassUptoCardSaid : Prop := Claim7.holds Tryz.pinned (.plain (OpenSpec.upto topPassSpec)) topPassUptoCard

/-- THE SECOND FORM's CARD OF 'rgtop.TopGone'. -/
def topGoneUptoCard : Claim7 := { stood := { row := topGoneUptoRow, standIns := [], harness := (true, "255b711cb93398ece4c23c8333820939dfb19ec21cd2d0e01a8974653235352b"), looks := false }, kinds := [], alts := [], laidByText := true, laidKinds := [.data, .pinned], laidTests := true, laidLooks := .later }
def TopGoneUptoCardSaid : Prop := Claim7.holds Tryz.pinned (.plain (OpenSpec.upto topGoneSpec)) topGoneUptoCard

/-- THE SECOND FORM's CARD OF 'rgtop.TopOrphan'. -/
def topOrphanUptoCard : Claim7 := { stood := { row := topOrphanUptoRow, standIns := [], harness := (true, "255b711cb93398ece4c23c8333820939dfb19ec21cd2d0e01a8974653235352b"), looks := false }, kinds := [], alts := [], laidByText := true, laidKinds := [.data, .pinned], laidTests := true, laidLooks := .later }
def TopOrphanUptoCardSaid : Prop := Claim7.holds Tryz.pinned (.plain (OpenSpec.upto topOrphanSpec)) topOrphanUptoCard
end Rows
end Go.Proofs.YthagjdhjmamakaaGreatDoor
