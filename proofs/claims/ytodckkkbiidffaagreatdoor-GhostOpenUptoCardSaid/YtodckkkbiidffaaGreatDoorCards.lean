/-
  DERIVED. GIVEN WITH THE SEED: THE CARDS: each row of YtodckkkbiidffaaGreatDoorRows.lean that lists a variable, with what it lists TIED to the program's text (the seventh form; the later family's looks); each row that meets fmt, with fmt's text TOLD by the authors' own Lean function (tested against real Go, not proved from fmt's source: count such statements apart). THE CARD IS WHAT COUNTS. Prove the row's statement (the work); the ties are given (YtodckkkbiidffaaGreatDoorTie.lean); close each card by the builder's one call (the guide's Derived/Test/ToyasCard.lean, 'card_holds'). Laid BY PROGRAM, IN A SANDBOX (cutbox-door.mjs). By AI agents, Wed Nov 11 2026. No macro, syntax, notation, axiom, sorry.
-/
import Derived.Test.YtodckkkbiidffaaGreatDoorRows
import GoSem.ClaimSeven
namespace Go.Proofs.YtodckkkbiidffaaGreatDoor
namespace Rows

/-- THE TIED CARD OF 'rgtop.TopJail'. -/
def topJailCard : Claim7 := { stood := { row := topJailRow, standIns := [], harness := (true, "310bc849df7fa91f5505895421b699b5341cb0f95a35b11024ecb66a50e7be5e"), looks := false }, kinds := [], alts := [], laidByText := true, laidKinds := [.data, .pinned], laidTests := true, laidLooks := .later }
def TopJailCardSaid : Prop := Claim7.holds Tryz.pinned (.plain (OpenSpec.ofChange topJailSpec)) topJailCard

/-- THE TIED CARD OF 'rglaw12.GhostLess'. -/
def ghostLessCard : Claim7 := { stood := { row := ghostLessRow, standIns := [], harness := (true, "310bc849df7fa91f5505895421b699b5341cb0f95a35b11024ecb66a50e7be5e"), looks := false }, kinds := [], alts := [], laidByText := true, laidKinds := [.data, .pinned], laidTests := true, laidLooks := .later }
def GhostLessCardSaid : Prop := Claim7.holds Tryz.pinned (.plain (OpenSpec.ofChange ghostLessSpec)) ghostLessCard

/-- THE TIED CARD OF 'rglaw12.GhostTurn'. -/
def ghostTurnCard : Claim7 := { stood := { row := ghostTurnRow, standIns := [], harness := (true, "310bc849df7fa91f5505895421b699b5341cb0f95a35b11024ecb66a50e7be5e"), looks := false }, kinds := [], alts := [], laidByText := true, laidKinds := [.data, .pinned], laidTests := true, laidLooks := .later }
def GhostTurnCardSaid : Prop := Claim7.holds Tryz.pinned (.plain (OpenSpec.ofChange ghostTurnSpec)) ghostTurnCard

/-- THE TIED CARD OF 'rglaw12.GhostAll'. -/
def ghostAllCard : Claim7 := { stood := { row := ghostAllRow, standIns := [], harness := (true, "310bc849df7fa91f5505895421b699b5341cb0f95a35b11024ecb66a50e7be5e"), looks := false }, kinds := [], alts := [], laidByText := true, laidKinds := [.data, .pinned], laidTests := true, laidLooks := .later }
def GhostAllCardSaid : Prop := Claim7.holds Tryz.pinned (.plain (OpenSpec.ofChange ghostAllSpec)) ghostAllCard

/-- THE TIED CARD OF 'rglaw12.GhostOpen'. -/
def ghostOpenCard : Claim7 := { stood := { row := ghostOpenRow, standIns := [], harness := (true, "310bc849df7fa91f5505895421b699b5341cb0f95a35b11024ecb66a50e7be5e"), looks := false }, kinds := [], alts := [], laidByText := true, laidKinds := [.data, .pinned], laidTests := true, laidLooks := .later }
def GhostOpenCardSaid : Prop := Claim7.holds Tryz.pinned (.plain (OpenSpec.ofChange ghostOpenSpec)) ghostOpenCard

/-- THE SECOND FORM's CARD OF 'rgtop.TopJail'. -/
def topJailUptoCard : Claim7 := { stood := { row := topJailUptoRow, standIns := [], harness := (true, "310bc849df7fa91f5505895421b699b5341cb0f95a35b11024ecb66a50e7be5e"), looks := false }, kinds := [], alts := [], laidByText := true, laidKinds := [.data, .pinned], laidTests := true, laidLooks := .later }
def TopJailUptoCardSaid : Prop := Claim7.holds Tryz.pinned (.plain (OpenSpec.upto topJailSpec)) topJailUptoCard

/-- THE SECOND FORM's CARD OF 'rglaw12.GhostLess'. -/
def ghostLessUptoCard : Claim7 := { stood := { row := ghostLessUptoRow, standIns := [], harness := (true, "310bc849df7fa91f5505895421b699b5341cb0f95a35b11024ecb66a50e7be5e"), looks := false }, kinds := [], alts := [], laidByText := true, laidKinds := [.data, .pinned], laidTests := true, laidLooks := .later }
def GhostLessUptoCardSaid : Prop := Claim7.holds Tryz.pinned (.plain (OpenSpec.upto ghostLessSpec)) ghostLessUptoCard

/-- THE SECOND FORM's CARD OF 'rglaw12.GhostTurn'. -/
def ghostTurnUptoCard : Claim7 := { stood := { row := ghostTurnUptoRow, standIns := [], harness := (true, "310bc849df7fa91f5505895421b699b5341cb0f95a35b11024ecb66a50e7be5e"), looks := false }, kinds := [], alts := [], laidByText := true, laidKinds := [.data, .pinned], laidTests := true, laidLooks := .later }
def GhostTurnUptoCardSaid : Prop := Claim7.holds Tryz.pinned (.plain (OpenSpec.upto ghostTurnSpec)) ghostTurnUptoCard

/-- THE SECOND FORM's CARD OF 'rglaw12.GhostAll'. -/
def ghostAllUptoCard : Claim7 := { stood := { row := ghostAllUptoRow, standIns := [], harness := (true, "310bc849df7fa91f5505895421b699b5341cb0f95a35b11024ecb66a50e7be5e"), looks := false }, kinds := [], alts := [], laidByText := true, laidKinds := [.data, .pinned], laidTests := true, laidLooks := .later }
def GhostAllUptoCardSaid : Prop := Claim7.holds Tryz.pinned (.plain (OpenSpec.upto ghostAllSpec)) ghostAllUptoCard

/-- THE SECOND FORM's CARD OF 'rglaw12.GhostOpen'. -/
def ghostOpenUptoCard : Claim7 := { stood := { row := ghostOpenUptoRow, standIns := [], harness := (true, "310bc849df7fa91f5505895421b699b5341cb0f95a35b11024ecb66a50e7be5e"), looks := false }, kinds := [], alts := [], laidByText := true, laidKinds := [.data, .pinned], laidTests := true, laidLooks := .later }
def GhostOpenUptoCardSaid : Prop := Claim7.holds Tryz.pinned (.plain (OpenSpec.upto ghostOpenSpec)) ghostOpenUptoCard
end Rows
end Go.Proofs.YtodckkkbiidffaaGreatDoor
