/-
  DERIVED. GIVEN WITH THE SEED: THE CARDS: each row of YtjpedimndkibnaaGreatDoorRows.lean that lists a variable, with what it lists TIED to the program's text (the seventh form; the later family's looks); each row that meets fmt, with fmt's text TOLD by the authors' own Lean function (tested against real Go, not proved from fmt's source: count such statements apart). THE CARD IS WHAT COUNTS. Prove the row's statement (the work); the ties are given (YtjpedimndkibnaaGreatDoorTie.lean); close each card by the builder's one call (the guide's Derived/Test/ToyasCard.lean, 'card_holds'). Laid BY PROGRAM, IN A SANDBOX (cutbox-door.mjs). By AI agents, Wed Nov 11 2026. No macro, syntax, notation, axiom, sorry.
-/
import Derived.Test.YtjpedimndkibnaaGreatDoorRows
import GoSem.ClaimSeven
namespace Go.Proofs.YtjpedimndkibnaaGreatDoor
namespace Rows

/-- THE TIED CARD OF 'shutterlaw13.HostDoes'. -/
def hostDoesCard : Claim7 := { stood := { row := hostDoesRow, standIns := [], harness := (true, "15fc5a910579dc7b04b3df5f8a2c7f74ed65dd0d19664632640e4d8a8858be52"), looks := true }, kinds := [], alts := [], laidByText := true, laidKinds := [.handle], laidTests := true, laidLooks := .later }
def HostDoesCardSaid : Prop := Claim7.holds Tryz.pinned (.plain (OpenSpec.ofChange hostDoesSpec)) hostDoesCard

/-- THE TIED CARD OF 'shutterlaw17.KeysDo'. -/
def keysDoCard : Claim7 := { stood := { row := keysDoRow, standIns := [], harness := (true, "15fc5a910579dc7b04b3df5f8a2c7f74ed65dd0d19664632640e4d8a8858be52"), looks := true }, kinds := [], alts := [], laidByText := true, laidKinds := [.handle], laidTests := true, laidLooks := .later }
def KeysDoCardSaid : Prop := Claim7.holds Tryz.pinned (.plain (OpenSpec.ofChange keysDoSpec)) keysDoCard

/-- THE SECOND FORM's CARD OF 'shutterlaw13.HostDoes'. -/
def hostDoesUptoCard : Claim7 := { stood := { row := hostDoesUptoRow, standIns := [], harness := (true, "15fc5a910579dc7b04b3df5f8a2c7f74ed65dd0d19664632640e4d8a8858be52"), looks := true }, kinds := [], alts := [], laidByText := true, laidKinds := [.handle], laidTests := true, laidLooks := .later }
def HostDoesUptoCardSaid : Prop := Claim7.holds Tryz.pinned (.plain (OpenSpec.upto hostDoesSpec)) hostDoesUptoCard

/-- THE SECOND FORM's CARD OF 'shutterlaw17.KeysDo'. -/
def keysDoUptoCard : Claim7 := { stood := { row := keysDoUptoRow, standIns := [], harness := (true, "15fc5a910579dc7b04b3df5f8a2c7f74ed65dd0d19664632640e4d8a8858be52"), looks := true }, kinds := [], alts := [], laidByText := true, laidKinds := [.handle], laidTests := true, laidLooks := .later }
def KeysDoUptoCardSaid : Prop := Claim7.holds Tryz.pinned (.plain (OpenSpec.upto keysDoSpec)) keysDoUptoCard
end Rows
end Go.Proofs.YtjpedimndkibnaaGreatDoor
