/-
  DERIVED. GIVEN WITH THE SEED: THE CARDS: each row of YtapcfcagjlmgjaaDoorRows.lean that lists a variable, with what it lists TIED to the program's text (the seventh form; the later family's looks); each row that meets fmt, with fmt's text TOLD by the authors' own Lean function (tested against real Go, not proved from fmt's source: count such statements apart). THE CARD IS WHAT COUNTS. Prove the row's statement (the work); the ties are given (YtapcfcagjlmgjaaDoorTie.lean); close each card by the builder's one call (the guide's Derived/Test/ToyasCard.lean, 'card_holds'). Laid BY PROGRAM, IN A SANDBOX (cutbox-door.mjs). By AI agents, Wed Nov 11 2026. No macro, syntax, notation, axiom, sorry.
-/
import Derived.Test.YtapcfcagjlmgjaaDoorRows
import GoSem.ClaimSeven
namespace Go.Proofs.YtapcfcagjlmgjaaDoor
namespace Rows

/-- THE TIED CARD OF 'shutterlaw15.MoveDoes'. -/
def moveDoesCard : Claim7 := { stood := { row := moveDoesRow, standIns := [], harness := (true, "049629ecc44ab3f7dea6a0cfd6e11597812b3b8aeb86b44a9804968a0f7b4c1b"), looks := true }, kinds := [], alts := [], laidByText := true, laidKinds := [.handle], laidTests := true, laidLooks := .later }
def MoveDoesCardSaid : Prop := Claim7.holds Tryd.pinned (.plain (OpenSpec.ofChange moveDoesSpec)) moveDoesCard

/-- THE TIED CARD OF 'shutterlaw15.MoveAlone'. -/
def moveAloneCard : Claim7 := { stood := { row := moveAloneRow, standIns := [], harness := (true, "049629ecc44ab3f7dea6a0cfd6e11597812b3b8aeb86b44a9804968a0f7b4c1b"), looks := true }, kinds := [], alts := [], laidByText := true, laidKinds := [.handle], laidTests := true, laidLooks := .later }
def MoveAloneCardSaid : Prop := Claim7.holds Tryd.pinned (.plain (OpenSpec.ofChange moveAloneSpec)) moveAloneCard

/-- THE TIED CARD OF 'shutterlaw15.MoveBack'. -/
def moveBackCard : Claim7 := { stood := { row := moveBackRow, standIns := [], harness := (true, "049629ecc44ab3f7dea6a0cfd6e11597812b3b8aeb86b44a9804968a0f7b4c1b"), looks := true }, kinds := [], alts := [], laidByText := true, laidKinds := [.handle], laidTests := true, laidLooks := .later }
def MoveBackCardSaid : Prop := Claim7.holds Tryd.pinned (.plain (OpenSpec.ofChange moveBackSpec)) moveBackCard

/-- THE TIED CARD OF 'shutterlaw15.MoveKeeps'. -/
def moveKeepsCard : Claim7 := { stood := { row := moveKeepsRow, standIns := [], harness := (true, "049629ecc44ab3f7dea6a0cfd6e11597812b3b8aeb86b44a9804968a0f7b4c1b"), looks := true }, kinds := [], alts := [], laidByText := true, laidKinds := [.handle], laidTests := true, laidLooks := .later }
def MoveKeepsCardSaid : Prop := Claim7.holds Tryd.pinned (.plain (OpenSpec.ofChange moveKeepsSpec)) moveKeepsCard

/-- THE TIED CARD OF 'shutterlaw15.MoveRound'. -/
def moveRoundCard : Claim7 := { stood := { row := moveRoundRow, standIns := [], harness := (true, "049629ecc44ab3f7dea6a0cfd6e11597812b3b8aeb86b44a9804968a0f7b4c1b"), looks := true }, kinds := [], alts := [], laidByText := true, laidKinds := [.handle], laidTests := true, laidLooks := .later }
def MoveRoundCardSaid : Prop := Claim7.holds Tryd.pinned (.plain (OpenSpec.ofChange moveRoundSpec)) moveRoundCard

/-- THE SECOND FORM's CARD OF 'shutterlaw15.MoveDoes'. -/
def moveDoesUptoCard : Claim7 := { stood := { row := moveDoesUptoRow, standIns := [], harness := (true, "049629ecc44ab3f7dea6a0cfd6e11597812b3b8aeb86b44a9804968a0f7b4c1b"), looks := true }, kinds := [], alts := [], laidByText := true, laidKinds := [.handle], laidTests := true, laidLooks := .later }
def MoveDoesUptoCardSaid : Prop := Claim7.holds Tryd.pinned (.plain (OpenSpec.upto moveDoesSpec)) moveDoesUptoCard

/-- THE SECOND FORM's CARD OF 'shutterlaw15.MoveAlone'. -/
def moveAloneUptoCard : Claim7 := { stood := { row := moveAloneUptoRow, standIns := [], harness := (true, "049629ecc44ab3f7dea6a0cfd6e11597812b3b8aeb86b44a9804968a0f7b4c1b"), looks := true }, kinds := [], alts := [], laidByText := true, laidKinds := [.handle], laidTests := true, laidLooks := .later }
def MoveAloneUptoCardSaid : Prop := Claim7.holds Tryd.pinned (.plain (OpenSpec.upto moveAloneSpec)) moveAloneUptoCard

/-- THE SECOND FORM's CARD OF 'shutterlaw15.MoveBack'. -/
def moveBackUptoCard : Claim7 := { stood := { row := moveBackUptoRow, standIns := [], harness := (true, "049629ecc44ab3f7dea6a0cfd6e11597812b3b8aeb86b44a9804968a0f7b4c1b"), looks := true }, kinds := [], alts := [], laidByText := true, laidKinds := [.handle], laidTests := true, laidLooks := .later }
def MoveBackUptoCardSaid : Prop := Claim7.holds Tryd.pinned (.plain (OpenSpec.upto moveBackSpec)) moveBackUptoCard

/-- THE SECOND FORM's CARD OF 'shutterlaw15.MoveKeeps'. -/
def moveKeepsUptoCard : Claim7 := { stood := { row := moveKeepsUptoRow, standIns := [], harness := (true, "049629ecc44ab3f7dea6a0cfd6e11597812b3b8aeb86b44a9804968a0f7b4c1b"), looks := true }, kinds := [], alts := [], laidByText := true, laidKinds := [.handle], laidTests := true, laidLooks := .later }
def MoveKeepsUptoCardSaid : Prop := Claim7.holds Tryd.pinned (.plain (OpenSpec.upto moveKeepsSpec)) moveKeepsUptoCard

/-- THE SECOND FORM's CARD OF 'shutterlaw15.MoveRound'. -/
def moveRoundUptoCard : Claim7 := { stood := { row := moveRoundUptoRow, standIns := [], harness := (true, "049629ecc44ab3f7dea6a0cfd6e11597812b3b8aeb86b44a9804968a0f7b4c1b"), looks := true }, kinds := [], alts := [], laidByText := true, laidKinds := [.handle], laidTests := true, laidLooks := .later }
def MoveRoundUptoCardSaid : Prop := Claim7.holds Tryd.pinned (.plain (OpenSpec.upto moveRoundSpec)) moveRoundUptoCard
end Rows
end Go.Proofs.YtapcfcagjlmgjaaDoor
