/-
  DERIVED. GIVEN WITH THE SEED: THE CARDS: each row of YtgboplhcjhlabaaDoorRows.lean that lists a variable, with what it lists TIED to the program's text (the seventh form; the later family's looks); each row that meets fmt, with fmt's text TOLD by the authors' own Lean function (tested against real Go, not proved from fmt's source: count such statements apart). THE CARD IS WHAT COUNTS. Prove the row's statement (the work); the ties are given (YtgboplhcjhlabaaDoorTie.lean); close each card by the builder's one call (the guide's Derived/Test/ToyasCard.lean, 'card_holds'). Laid BY PROGRAM, IN A SANDBOX (cutbox-door.mjs). By AI agents, Wed Nov 11 2026. No macro, syntax, notation, axiom, sorry.
-/
import Derived.Test.YtgboplhcjhlabaaDoorRows
import GoSem.ClaimSeven
namespace Go.Proofs.YtgboplhcjhlabaaDoor
namespace Rows

/-- THE TIED CARD OF 'shutterlaw12.PaintOnes'. -/
def paintOnesCard : Claim7 := { stood := { row := paintOnesRow, standIns := [], harness := (true, "43355f19d588754ec2991ccc03a27b240cd1301edb4bac7e1a0379ea8b795d1d"), looks := true }, kinds := [], alts := [], laidByText := true, laidKinds := [.handle], laidTests := true, laidLooks := .later }
def PaintOnesCardSaid : Prop := Claim7.holds Tryd.pinned (.plain (OpenSpec.ofChange paintOnesSpec)) paintOnesCard

/-- THE TIED CARD OF 'shutterlaw12.PaintGuards'. -/
def paintGuardsCard : Claim7 := { stood := { row := paintGuardsRow, standIns := [], harness := (true, "43355f19d588754ec2991ccc03a27b240cd1301edb4bac7e1a0379ea8b795d1d"), looks := true }, kinds := [], alts := [], laidByText := true, laidKinds := [.handle], laidTests := true, laidLooks := .later }
def PaintGuardsCardSaid : Prop := Claim7.holds Tryd.pinned (.plain (OpenSpec.ofChange paintGuardsSpec)) paintGuardsCard

/-- THE TIED CARD OF 'shutterlaw12.PaintParts'. -/
def paintPartsCard : Claim7 := { stood := { row := paintPartsRow, standIns := [], harness := (true, "43355f19d588754ec2991ccc03a27b240cd1301edb4bac7e1a0379ea8b795d1d"), looks := true }, kinds := [], alts := [], laidByText := true, laidKinds := [.handle], laidTests := true, laidLooks := .later }
def PaintPartsCardSaid : Prop := Claim7.holds Tryd.pinned (.plain (OpenSpec.ofChange paintPartsSpec)) paintPartsCard

/-- THE TIED CARD OF 'shutterlaw12.PaintKeeps'. -/
def paintKeepsCard : Claim7 := { stood := { row := paintKeepsRow, standIns := [], harness := (true, "43355f19d588754ec2991ccc03a27b240cd1301edb4bac7e1a0379ea8b795d1d"), looks := true }, kinds := [], alts := [], laidByText := true, laidKinds := [.handle], laidTests := true, laidLooks := .later }
def PaintKeepsCardSaid : Prop := Claim7.holds Tryd.pinned (.plain (OpenSpec.ofChange paintKeepsSpec)) paintKeepsCard

/-- THE TIED CARD OF 'shutterlaw12.PaintAlls'. -/
def paintAllsCard : Claim7 := { stood := { row := paintAllsRow, standIns := [], harness := (true, "43355f19d588754ec2991ccc03a27b240cd1301edb4bac7e1a0379ea8b795d1d"), looks := true }, kinds := [], alts := [], laidByText := true, laidKinds := [.handle], laidTests := true, laidLooks := .later }
def PaintAllsCardSaid : Prop := Claim7.holds Tryd.pinned (.plain (OpenSpec.ofChange paintAllsSpec)) paintAllsCard

/-- THE TIED CARD OF 'shutterlaw13.HostResets'. -/
def hostResetsCard : Claim7 := { stood := { row := hostResetsRow, standIns := [], harness := (true, "43355f19d588754ec2991ccc03a27b240cd1301edb4bac7e1a0379ea8b795d1d"), looks := true }, kinds := [], alts := [], laidByText := true, laidKinds := [.handle], laidTests := true, laidLooks := .later }
def HostResetsCardSaid : Prop := Claim7.holds Tryd.pinned (.plain (OpenSpec.ofChange hostResetsSpec)) hostResetsCard

/-- THE TIED CARD OF 'shutterlaw13.HostClean'. -/
def hostCleanCard : Claim7 := { stood := { row := hostCleanRow, standIns := [], harness := (true, "43355f19d588754ec2991ccc03a27b240cd1301edb4bac7e1a0379ea8b795d1d"), looks := true }, kinds := [], alts := [], laidByText := true, laidKinds := [.handle], laidTests := true, laidLooks := .later }
def HostCleanCardSaid : Prop := Claim7.holds Tryd.pinned (.plain (OpenSpec.ofChange hostCleanSpec)) hostCleanCard

/-- THE TIED CARD OF 'shutterlaw13.HostErases'. -/
def hostErasesCard : Claim7 := { stood := { row := hostErasesRow, standIns := [], harness := (true, "43355f19d588754ec2991ccc03a27b240cd1301edb4bac7e1a0379ea8b795d1d"), looks := true }, kinds := [], alts := [], laidByText := true, laidKinds := [.handle], laidTests := true, laidLooks := .later }
def HostErasesCardSaid : Prop := Claim7.holds Tryd.pinned (.plain (OpenSpec.ofChange hostErasesSpec)) hostErasesCard

/-- THE TIED CARD OF 'shutterlaw13.HostKeeps'. -/
def hostKeepsCard : Claim7 := { stood := { row := hostKeepsRow, standIns := [], harness := (true, "43355f19d588754ec2991ccc03a27b240cd1301edb4bac7e1a0379ea8b795d1d"), looks := true }, kinds := [], alts := [], laidByText := true, laidKinds := [.handle], laidTests := true, laidLooks := .later }
def HostKeepsCardSaid : Prop := Claim7.holds Tryd.pinned (.plain (OpenSpec.ofChange hostKeepsSpec)) hostKeepsCard

/-- THE TIED CARD OF 'shutterlaw13.HostTwice'. -/
def hostTwiceCard : Claim7 := { stood := { row := hostTwiceRow, standIns := [], harness := (true, "43355f19d588754ec2991ccc03a27b240cd1301edb4bac7e1a0379ea8b795d1d"), looks := true }, kinds := [], alts := [], laidByText := true, laidKinds := [.handle], laidTests := true, laidLooks := .later }
def HostTwiceCardSaid : Prop := Claim7.holds Tryd.pinned (.plain (OpenSpec.ofChange hostTwiceSpec)) hostTwiceCard

/-- THE TIED CARD OF 'shutterlaw16.WipeHost'. -/
def wipeHostCard : Claim7 := { stood := { row := wipeHostRow, standIns := [], harness := (true, "43355f19d588754ec2991ccc03a27b240cd1301edb4bac7e1a0379ea8b795d1d"), looks := true }, kinds := [], alts := [], laidByText := true, laidKinds := [.handle], laidTests := true, laidLooks := .later }
def WipeHostCardSaid : Prop := Claim7.holds Tryd.pinned (.plain (OpenSpec.ofChange wipeHostSpec)) wipeHostCard

/-- THE SECOND FORM's CARD OF 'shutterlaw12.PaintOnes'. -/
def paintOnesUptoCard : Claim7 := { stood := { row := paintOnesUptoRow, standIns := [], harness := (true, "43355f19d588754ec2991ccc03a27b240cd1301edb4bac7e1a0379ea8b795d1d"), looks := true }, kinds := [], alts := [], laidByText := true, laidKinds := [.handle], laidTests := true, laidLooks := .later }
def PaintOnesUptoCardSaid : Prop := Claim7.holds Tryd.pinned (.plain (OpenSpec.upto paintOnesSpec)) paintOnesUptoCard

/-- THE SECOND FORM's CARD OF 'shutterlaw12.PaintGuards'. -/
def paintGuardsUptoCard : Claim7 := { stood := { row := paintGuardsUptoRow, standIns := [], harness := (true, "43355f19d588754ec2991ccc03a27b240cd1301edb4bac7e1a0379ea8b795d1d"), looks := true }, kinds := [], alts := [], laidByText := true, laidKinds := [.handle], laidTests := true, laidLooks := .later }
def PaintGuardsUptoCardSaid : Prop := Claim7.holds Tryd.pinned (.plain (OpenSpec.upto paintGuardsSpec)) paintGuardsUptoCard

/-- THE SECOND FORM's CARD OF 'shutterlaw12.PaintParts'. -/
def paintPartsUptoCard : Claim7 := { stood := { row := paintPartsUptoRow, standIns := [], harness := (true, "43355f19d588754ec2991ccc03a27b240cd1301edb4bac7e1a0379ea8b795d1d"), looks := true }, kinds := [], alts := [], laidByText := true, laidKinds := [.handle], laidTests := true, laidLooks := .later }
def PaintPartsUptoCardSaid : Prop := Claim7.holds Tryd.pinned (.plain (OpenSpec.upto paintPartsSpec)) paintPartsUptoCard

/-- THE SECOND FORM's CARD OF 'shutterlaw12.PaintKeeps'. -/
def paintKeepsUptoCard : Claim7 := { stood := { row := paintKeepsUptoRow, standIns := [], harness := (true, "43355f19d588754ec2991ccc03a27b240cd1301edb4bac7e1a0379ea8b795d1d"), looks := true }, kinds := [], alts := [], laidByText := true, laidKinds := [.handle], laidTests := true, laidLooks := .later }
def PaintKeepsUptoCardSaid : Prop := Claim7.holds Tryd.pinned (.plain (OpenSpec.upto paintKeepsSpec)) paintKeepsUptoCard

/-- THE SECOND FORM's CARD OF 'shutterlaw12.PaintAlls'. -/
def paintAllsUptoCard : Claim7 := { stood := { row := paintAllsUptoRow, standIns := [], harness := (true, "43355f19d588754ec2991ccc03a27b240cd1301edb4bac7e1a0379ea8b795d1d"), looks := true }, kinds := [], alts := [], laidByText := true, laidKinds := [.handle], laidTests := true, laidLooks := .later }
def PaintAllsUptoCardSaid : Prop := Claim7.holds Tryd.pinned (.plain (OpenSpec.upto paintAllsSpec)) paintAllsUptoCard

/-- THE SECOND FORM's CARD OF 'shutterlaw13.HostResets'. -/
def hostResetsUptoCard : Claim7 := { stood := { row := hostResetsUptoRow, standIns := [], harness := (true, "43355f19d588754ec2991ccc03a27b240cd1301edb4bac7e1a0379ea8b795d1d"), looks := true }, kinds := [], alts := [], laidByText := true, laidKinds := [.handle], laidTests := true, laidLooks := .later }
def HostResetsUptoCardSaid : Prop := Claim7.holds Tryd.pinned (.plain (OpenSpec.upto hostResetsSpec)) hostResetsUptoCard

/-- THE SECOND FORM's CARD OF 'shutterlaw13.HostClean'. -/
def hostCleanUptoCard : Claim7 := { stood := { row := hostCleanUptoRow, standIns := [], harness := (true, "43355f19d588754ec2991ccc03a27b240cd1301edb4bac7e1a0379ea8b795d1d"), looks := true }, kinds := [], alts := [], laidByText := true, laidKinds := [.handle], laidTests := true, laidLooks := .later }
def HostCleanUptoCardSaid : Prop := Claim7.holds Tryd.pinned (.plain (OpenSpec.upto hostCleanSpec)) hostCleanUptoCard

/-- THE SECOND FORM's CARD OF 'shutterlaw13.HostErases'. -/
def hostErasesUptoCard : Claim7 := { stood := { row := hostErasesUptoRow, standIns := [], harness := (true, "43355f19d588754ec2991ccc03a27b240cd1301edb4bac7e1a0379ea8b795d1d"), looks := true }, kinds := [], alts := [], laidByText := true, laidKinds := [.handle], laidTests := true, laidLooks := .later }
def HostErasesUptoCardSaid : Prop := Claim7.holds Tryd.pinned (.plain (OpenSpec.upto hostErasesSpec)) hostErasesUptoCard

/-- THE SECOND FORM's CARD OF 'shutterlaw13.HostKeeps'. -/
def hostKeepsUptoCard : Claim7 := { stood := { row := hostKeepsUptoRow, standIns := [], harness := (true, "43355f19d588754ec2991ccc03a27b240cd1301edb4bac7e1a0379ea8b795d1d"), looks := true }, kinds := [], alts := [], laidByText := true, laidKinds := [.handle], laidTests := true, laidLooks := .later }
def HostKeepsUptoCardSaid : Prop := Claim7.holds Tryd.pinned (.plain (OpenSpec.upto hostKeepsSpec)) hostKeepsUptoCard

/-- THE SECOND FORM's CARD OF 'shutterlaw13.HostTwice'. -/
def hostTwiceUptoCard : Claim7 := { stood := { row := hostTwiceUptoRow, standIns := [], harness := (true, "43355f19d588754ec2991ccc03a27b240cd1301edb4bac7e1a0379ea8b795d1d"), looks := true }, kinds := [], alts := [], laidByText := true, laidKinds := [.handle], laidTests := true, laidLooks := .later }
def HostTwiceUptoCardSaid : Prop := Claim7.holds Tryd.pinned (.plain (OpenSpec.upto hostTwiceSpec)) hostTwiceUptoCard

/-- THE SECOND FORM's CARD OF 'shutterlaw16.WipeHost'. -/
def wipeHostUptoCard : Claim7 := { stood := { row := wipeHostUptoRow, standIns := [], harness := (true, "43355f19d588754ec2991ccc03a27b240cd1301edb4bac7e1a0379ea8b795d1d"), looks := true }, kinds := [], alts := [], laidByText := true, laidKinds := [.handle], laidTests := true, laidLooks := .later }
def WipeHostUptoCardSaid : Prop := Claim7.holds Tryd.pinned (.plain (OpenSpec.upto wipeHostSpec)) wipeHostUptoCard
end Rows
end Go.Proofs.YtgboplhcjhlabaaDoor
