/-
  DERIVED. GIVEN WITH THE SEED: THE CARDS: each row of YtggecanpjkpkiaaDoorRows.lean that lists a variable, with what it lists TIED to the program's text (the seventh form; the later family's looks); each row that meets fmt, with fmt's text TOLD by the authors' own Lean function (tested against real Go, not proved from fmt's source: count such statements apart). THE CARD IS WHAT COUNTS. Prove the row's statement (the work); the ties are given (YtggecanpjkpkiaaDoorTie.lean); close each card by the builder's one call (the guide's Derived/Test/ToyasCard.lean, 'card_holds'). Laid BY PROGRAM, IN A SANDBOX (cutbox-door.mjs). By AI agents, Wed Nov 11 2026. No macro, syntax, notation, axiom, sorry.
-/
import Derived.Test.YtggecanpjkpkiaaDoorRows
import GoSem.ClaimSeven
namespace Go.Proofs.YtggecanpjkpkiaaDoor
namespace Rows

/-- THE TIED CARD OF 'shutterlaw16.WipeGuards'. -/
def wipeGuardsCard : Claim7 := { stood := { row := wipeGuardsRow, standIns := [], harness := (true, "e133a5ec18650f76402f4a3165ffa123a987ab6ec9ae60d9869e41ceac5d03a0"), looks := true }, kinds := [], alts := [], laidByText := true, laidKinds := [.handle], laidTests := true, laidLooks := .later }
def WipeGuardsCardSaid : Prop := Claim7.holds Tryd.pinned (.plain (OpenSpec.ofChange wipeGuardsSpec)) wipeGuardsCard

/-- THE TIED CARD OF 'shutterlaw16.WipeKeeps'. -/
def wipeKeepsCard : Claim7 := { stood := { row := wipeKeepsRow, standIns := [], harness := (true, "e133a5ec18650f76402f4a3165ffa123a987ab6ec9ae60d9869e41ceac5d03a0"), looks := true }, kinds := [], alts := [], laidByText := true, laidKinds := [.handle], laidTests := true, laidLooks := .later }
def WipeKeepsCardSaid : Prop := Claim7.holds Tryd.pinned (.plain (OpenSpec.ofChange wipeKeepsSpec)) wipeKeepsCard

/-- THE TIED CARD OF 'shutterlaw16.WipeTwice'. -/
def wipeTwiceCard : Claim7 := { stood := { row := wipeTwiceRow, standIns := [], harness := (true, "e133a5ec18650f76402f4a3165ffa123a987ab6ec9ae60d9869e41ceac5d03a0"), looks := true }, kinds := [], alts := [], laidByText := true, laidKinds := [.handle], laidTests := true, laidLooks := .later }
def WipeTwiceCardSaid : Prop := Claim7.holds Tryd.pinned (.plain (OpenSpec.ofChange wipeTwiceSpec)) wipeTwiceCard

/-- THE TIED CARD OF 'shutterlaw16.WipeDoes'. -/
def wipeDoesCard : Claim7 := { stood := { row := wipeDoesRow, standIns := [], harness := (true, "e133a5ec18650f76402f4a3165ffa123a987ab6ec9ae60d9869e41ceac5d03a0"), looks := true }, kinds := [], alts := [], laidByText := true, laidKinds := [.handle], laidTests := true, laidLooks := .later }
def WipeDoesCardSaid : Prop := Claim7.holds Tryd.pinned (.plain (OpenSpec.ofChange wipeDoesSpec)) wipeDoesCard

/-- THE TIED CARD OF 'shutterlaw14.EditInserts'. -/
def editInsertsCard : Claim7 := { stood := { row := editInsertsRow, standIns := [], harness := (true, "e133a5ec18650f76402f4a3165ffa123a987ab6ec9ae60d9869e41ceac5d03a0"), looks := true }, kinds := [], alts := [], laidByText := true, laidKinds := [.handle], laidTests := true, laidLooks := .later }
def EditInsertsCardSaid : Prop := Claim7.holds Tryd.pinned (.plain (OpenSpec.ofChange editInsertsSpec)) editInsertsCard

/-- THE TIED CARD OF 'shutterlaw14.EditOver'. -/
def editOverCard : Claim7 := { stood := { row := editOverRow, standIns := [], harness := (true, "e133a5ec18650f76402f4a3165ffa123a987ab6ec9ae60d9869e41ceac5d03a0"), looks := true }, kinds := [], alts := [], laidByText := true, laidKinds := [.handle], laidTests := true, laidLooks := .later }
def EditOverCardSaid : Prop := Claim7.holds Tryd.pinned (.plain (OpenSpec.ofChange editOverSpec)) editOverCard

/-- THE TIED CARD OF 'shutterlaw14.EditTypes'. -/
def editTypesCard : Claim7 := { stood := { row := editTypesRow, standIns := [], harness := (true, "e133a5ec18650f76402f4a3165ffa123a987ab6ec9ae60d9869e41ceac5d03a0"), looks := true }, kinds := [], alts := [], laidByText := true, laidKinds := [.handle], laidTests := true, laidLooks := .later }
def EditTypesCardSaid : Prop := Claim7.holds Tryd.pinned (.plain (OpenSpec.ofChange editTypesSpec)) editTypesCard

/-- THE TIED CARD OF 'shutterlaw14.EditLines'. -/
def editLinesCard : Claim7 := { stood := { row := editLinesRow, standIns := [], harness := (true, "e133a5ec18650f76402f4a3165ffa123a987ab6ec9ae60d9869e41ceac5d03a0"), looks := true }, kinds := [], alts := [], laidByText := true, laidKinds := [.handle], laidTests := true, laidLooks := .later }
def EditLinesCardSaid : Prop := Claim7.holds Tryd.pinned (.plain (OpenSpec.ofChange editLinesSpec)) editLinesCard

/-- THE TIED CARD OF 'shutterlaw14.EditGuards'. -/
def editGuardsCard : Claim7 := { stood := { row := editGuardsRow, standIns := [], harness := (true, "e133a5ec18650f76402f4a3165ffa123a987ab6ec9ae60d9869e41ceac5d03a0"), looks := true }, kinds := [], alts := [], laidByText := true, laidKinds := [.handle], laidTests := true, laidLooks := .later }
def EditGuardsCardSaid : Prop := Claim7.holds Tryd.pinned (.plain (OpenSpec.ofChange editGuardsSpec)) editGuardsCard

/-- THE TIED CARD OF 'shutterlaw16.WipeUndoes'. -/
def wipeUndoesCard : Claim7 := { stood := { row := wipeUndoesRow, standIns := [], harness := (true, "e133a5ec18650f76402f4a3165ffa123a987ab6ec9ae60d9869e41ceac5d03a0"), looks := true }, kinds := [], alts := [], laidByText := true, laidKinds := [.handle], laidTests := true, laidLooks := .later }
def WipeUndoesCardSaid : Prop := Claim7.holds Tryd.pinned (.plain (OpenSpec.ofChange wipeUndoesSpec)) wipeUndoesCard

/-- THE TIED CARD OF 'shutterlaw17.KeysGuard'. -/
def keysGuardCard : Claim7 := { stood := { row := keysGuardRow, standIns := [], harness := (true, "e133a5ec18650f76402f4a3165ffa123a987ab6ec9ae60d9869e41ceac5d03a0"), looks := true }, kinds := [], alts := [], laidByText := true, laidKinds := [.handle], laidTests := true, laidLooks := .later }
def KeysGuardCardSaid : Prop := Claim7.holds Tryd.pinned (.plain (OpenSpec.ofChange keysGuardSpec)) keysGuardCard

/-- THE TIED CARD OF 'shutterlaw17.KeysLocked'. -/
def keysLockedCard : Claim7 := { stood := { row := keysLockedRow, standIns := [], harness := (true, "e133a5ec18650f76402f4a3165ffa123a987ab6ec9ae60d9869e41ceac5d03a0"), looks := true }, kinds := [], alts := [], laidByText := true, laidKinds := [.handle], laidTests := true, laidLooks := .later }
def KeysLockedCardSaid : Prop := Claim7.holds Tryd.pinned (.plain (OpenSpec.ofChange keysLockedSpec)) keysLockedCard

/-- THE TIED CARD OF 'shutterlaw17.KeysAsk'. -/
def keysAskCard : Claim7 := { stood := { row := keysAskRow, standIns := [], harness := (true, "e133a5ec18650f76402f4a3165ffa123a987ab6ec9ae60d9869e41ceac5d03a0"), looks := true }, kinds := [], alts := [], laidByText := true, laidKinds := [.handle], laidTests := true, laidLooks := .later }
def KeysAskCardSaid : Prop := Claim7.holds Tryd.pinned (.plain (OpenSpec.ofChange keysAskSpec)) keysAskCard

/-- THE TIED CARD OF 'shutterlaw17.KeysKeeps'. -/
def keysKeepsCard : Claim7 := { stood := { row := keysKeepsRow, standIns := [], harness := (true, "e133a5ec18650f76402f4a3165ffa123a987ab6ec9ae60d9869e41ceac5d03a0"), looks := true }, kinds := [], alts := [], laidByText := true, laidKinds := [.handle], laidTests := true, laidLooks := .later }
def KeysKeepsCardSaid : Prop := Claim7.holds Tryd.pinned (.plain (OpenSpec.ofChange keysKeepsSpec)) keysKeepsCard

/-- THE SECOND FORM's CARD OF 'shutterlaw16.WipeGuards'. -/
def wipeGuardsUptoCard : Claim7 := { stood := { row := wipeGuardsUptoRow, standIns := [], harness := (true, "e133a5ec18650f76402f4a3165ffa123a987ab6ec9ae60d9869e41ceac5d03a0"), looks := true }, kinds := [], alts := [], laidByText := true, laidKinds := [.handle], laidTests := true, laidLooks := .later }
def WipeGuardsUptoCardSaid : Prop := Claim7.holds Tryd.pinned (.plain (OpenSpec.upto wipeGuardsSpec)) wipeGuardsUptoCard

/-- THE SECOND FORM's CARD OF 'shutterlaw16.WipeKeeps'. -/
def wipeKeepsUptoCard : Claim7 := { stood := { row := wipeKeepsUptoRow, standIns := [], harness := (true, "e133a5ec18650f76402f4a3165ffa123a987ab6ec9ae60d9869e41ceac5d03a0"), looks := true }, kinds := [], alts := [], laidByText := true, laidKinds := [.handle], laidTests := true, laidLooks := .later }
def WipeKeepsUptoCardSaid : Prop := Claim7.holds Tryd.pinned (.plain (OpenSpec.upto wipeKeepsSpec)) wipeKeepsUptoCard

/-- THE SECOND FORM's CARD OF 'shutterlaw16.WipeTwice'. -/
def wipeTwiceUptoCard : Claim7 := { stood := { row := wipeTwiceUptoRow, standIns := [], harness := (true, "e133a5ec18650f76402f4a3165ffa123a987ab6ec9ae60d9869e41ceac5d03a0"), looks := true }, kinds := [], alts := [], laidByText := true, laidKinds := [.handle], laidTests := true, laidLooks := .later }
def WipeTwiceUptoCardSaid : Prop := Claim7.holds Tryd.pinned (.plain (OpenSpec.upto wipeTwiceSpec)) wipeTwiceUptoCard

/-- THE SECOND FORM's CARD OF 'shutterlaw16.WipeDoes'. -/
def wipeDoesUptoCard : Claim7 := { stood := { row := wipeDoesUptoRow, standIns := [], harness := (true, "e133a5ec18650f76402f4a3165ffa123a987ab6ec9ae60d9869e41ceac5d03a0"), looks := true }, kinds := [], alts := [], laidByText := true, laidKinds := [.handle], laidTests := true, laidLooks := .later }
def WipeDoesUptoCardSaid : Prop := Claim7.holds Tryd.pinned (.plain (OpenSpec.upto wipeDoesSpec)) wipeDoesUptoCard

/-- THE SECOND FORM's CARD OF 'shutterlaw14.EditInserts'. -/
def editInsertsUptoCard : Claim7 := { stood := { row := editInsertsUptoRow, standIns := [], harness := (true, "e133a5ec18650f76402f4a3165ffa123a987ab6ec9ae60d9869e41ceac5d03a0"), looks := true }, kinds := [], alts := [], laidByText := true, laidKinds := [.handle], laidTests := true, laidLooks := .later }
def EditInsertsUptoCardSaid : Prop := Claim7.holds Tryd.pinned (.plain (OpenSpec.upto editInsertsSpec)) editInsertsUptoCard

/-- THE SECOND FORM's CARD OF 'shutterlaw14.EditOver'. -/
def editOverUptoCard : Claim7 := { stood := { row := editOverUptoRow, standIns := [], harness := (true, "e133a5ec18650f76402f4a3165ffa123a987ab6ec9ae60d9869e41ceac5d03a0"), looks := true }, kinds := [], alts := [], laidByText := true, laidKinds := [.handle], laidTests := true, laidLooks := .later }
def EditOverUptoCardSaid : Prop := Claim7.holds Tryd.pinned (.plain (OpenSpec.upto editOverSpec)) editOverUptoCard

/-- THE SECOND FORM's CARD OF 'shutterlaw14.EditTypes'. -/
def editTypesUptoCard : Claim7 := { stood := { row := editTypesUptoRow, standIns := [], harness := (true, "e133a5ec18650f76402f4a3165ffa123a987ab6ec9ae60d9869e41ceac5d03a0"), looks := true }, kinds := [], alts := [], laidByText := true, laidKinds := [.handle], laidTests := true, laidLooks := .later }
def EditTypesUptoCardSaid : Prop := Claim7.holds Tryd.pinned (.plain (OpenSpec.upto editTypesSpec)) editTypesUptoCard

/-- THE SECOND FORM's CARD OF 'shutterlaw14.EditLines'. -/
def editLinesUptoCard : Claim7 := { stood := { row := editLinesUptoRow, standIns := [], harness := (true, "e133a5ec18650f76402f4a3165ffa123a987ab6ec9ae60d9869e41ceac5d03a0"), looks := true }, kinds := [], alts := [], laidByText := true, laidKinds := [.handle], laidTests := true, laidLooks := .later }
def EditLinesUptoCardSaid : Prop := Claim7.holds Tryd.pinned (.plain (OpenSpec.upto editLinesSpec)) editLinesUptoCard

/-- THE SECOND FORM's CARD OF 'shutterlaw14.EditGuards'. -/
def editGuardsUptoCard : Claim7 := { stood := { row := editGuardsUptoRow, standIns := [], harness := (true, "e133a5ec18650f76402f4a3165ffa123a987ab6ec9ae60d9869e41ceac5d03a0"), looks := true }, kinds := [], alts := [], laidByText := true, laidKinds := [.handle], laidTests := true, laidLooks := .later }
def EditGuardsUptoCardSaid : Prop := Claim7.holds Tryd.pinned (.plain (OpenSpec.upto editGuardsSpec)) editGuardsUptoCard

/-- THE SECOND FORM's CARD OF 'shutterlaw16.WipeUndoes'. -/
def wipeUndoesUptoCard : Claim7 := { stood := { row := wipeUndoesUptoRow, standIns := [], harness := (true, "e133a5ec18650f76402f4a3165ffa123a987ab6ec9ae60d9869e41ceac5d03a0"), looks := true }, kinds := [], alts := [], laidByText := true, laidKinds := [.handle], laidTests := true, laidLooks := .later }
def WipeUndoesUptoCardSaid : Prop := Claim7.holds Tryd.pinned (.plain (OpenSpec.upto wipeUndoesSpec)) wipeUndoesUptoCard

/-- THE SECOND FORM's CARD OF 'shutterlaw17.KeysGuard'. -/
def keysGuardUptoCard : Claim7 := { stood := { row := keysGuardUptoRow, standIns := [], harness := (true, "e133a5ec18650f76402f4a3165ffa123a987ab6ec9ae60d9869e41ceac5d03a0"), looks := true }, kinds := [], alts := [], laidByText := true, laidKinds := [.handle], laidTests := true, laidLooks := .later }
def KeysGuardUptoCardSaid : Prop := Claim7.holds Tryd.pinned (.plain (OpenSpec.upto keysGuardSpec)) keysGuardUptoCard

/-- THE SECOND FORM's CARD OF 'shutterlaw17.KeysLocked'. -/
def keysLockedUptoCard : Claim7 := { stood := { row := keysLockedUptoRow, standIns := [], harness := (true, "e133a5ec18650f76402f4a3165ffa123a987ab6ec9ae60d9869e41ceac5d03a0"), looks := true }, kinds := [], alts := [], laidByText := true, laidKinds := [.handle], laidTests := true, laidLooks := .later }
def KeysLockedUptoCardSaid : Prop := Claim7.holds Tryd.pinned (.plain (OpenSpec.upto keysLockedSpec)) keysLockedUptoCard

/-- THE SECOND FORM's CARD OF 'shutterlaw17.KeysAsk'. -/
def keysAskUptoCard : Claim7 := { stood := { row := keysAskUptoRow, standIns := [], harness := (true, "e133a5ec18650f76402f4a3165ffa123a987ab6ec9ae60d9869e41ceac5d03a0"), looks := true }, kinds := [], alts := [], laidByText := true, laidKinds := [.handle], laidTests := true, laidLooks := .later }
def KeysAskUptoCardSaid : Prop := Claim7.holds Tryd.pinned (.plain (OpenSpec.upto keysAskSpec)) keysAskUptoCard

/-- THE SECOND FORM's CARD OF 'shutterlaw17.KeysKeeps'. -/
def keysKeepsUptoCard : Claim7 := { stood := { row := keysKeepsUptoRow, standIns := [], harness := (true, "e133a5ec18650f76402f4a3165ffa123a987ab6ec9ae60d9869e41ceac5d03a0"), looks := true }, kinds := [], alts := [], laidByText := true, laidKinds := [.handle], laidTests := true, laidLooks := .later }
def KeysKeepsUptoCardSaid : Prop := Claim7.holds Tryd.pinned (.plain (OpenSpec.upto keysKeepsSpec)) keysKeepsUptoCard
end Rows
end Go.Proofs.YtggecanpjkpkiaaDoor
