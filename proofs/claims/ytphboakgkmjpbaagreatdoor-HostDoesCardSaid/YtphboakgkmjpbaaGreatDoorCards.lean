/-
  DERIVED. GIVEN WITH THE SEED: THE CARDS: each row of YtphboakgkmjpbaaGreatDoorRows.lean that lists a variable, with what it lists TIED to the program's text (the seventh form; the later family's looks); each row that meets fmt, with fmt's text TOLD by the authors' own Lean function (tested against real Go, not proved from fmt's source: count such statements apart). THE CARD IS WHAT COUNTS. Prove the row's statement (the work); the ties are given (YtphboakgkmjpbaaGreatDoorTie.lean); close each card by the builder's one call (the guide's Derived/Test/ToyasCard.lean, 'card_holds'). Laid BY PROGRAM, IN A SANDBOX (cutbox-door.mjs). By AI agents, Wed Nov 11 2026. No macro, syntax, notation, axiom, sorry.
-/
import Derived.Test.YtphboakgkmjpbaaGreatDoorRows
import GoSem.ClaimSeven
namespace Go.Proofs.YtphboakgkmjpbaaGreatDoor
namespace Rows

/-- THE TIED CARD OF 'shutterlaw13.HostDoes'. -/
def hostDoesCard : Claim7 := { stood := { row := hostDoesRow, standIns := [], harness := (true, "fe770af3a3e829dc569d61d539f893b4d9554996ee9ec9edf7e459037ce773be"), looks := true }, kinds := [], alts := [], laidByText := true, laidKinds := [.handle], laidTests := true, laidLooks := .later }
def HostDoesCardSaid : Prop := Claim7.holds Tryz.pinned (.plain (OpenSpec.ofChange hostDoesSpec)) hostDoesCard

/-- THE SECOND FORM's CARD OF 'shutterlaw13.HostDoes'. -/
def hostDoesUptoCard : Claim7 := { stood := { row := hostDoesUptoRow, standIns := [], harness := (true, "fe770af3a3e829dc569d61d539f893b4d9554996ee9ec9edf7e459037ce773be"), looks := true }, kinds := [], alts := [], laidByText := true, laidKinds := [.handle], laidTests := true, laidLooks := .later }
def HostDoesUptoCardSaid : Prop := Claim7.holds Tryz.pinned (.plain (OpenSpec.upto hostDoesSpec)) hostDoesUptoCard
end Rows
end Go.Proofs.YtphboakgkmjpbaaGreatDoor
