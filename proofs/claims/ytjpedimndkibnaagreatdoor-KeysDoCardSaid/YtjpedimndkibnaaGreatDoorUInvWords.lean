/- Out of the kit's words for this seat: what this seat's texts use (wip/tools/prune.py). -/
import Derived.Test.YtjpedimndkibnaaGreatDoorUInv
import Derived.Test.YtjpedimndkibnaaGreatDoorUFootNe
namespace Go.Proofs.YtjpedimndkibnaaGreatDoorW.PrintWords
open Go.RowKit
end Go.Proofs.YtjpedimndkibnaaGreatDoorW.PrintWords
namespace Go.Proofs.YtjpedimndkibnaaGreatDoorW.PrintLast
section
variable {ops : Array Oper} {a : Act} {o og : Oper} {g : Nat} {t : Tmp} {u : Bool}
end
end Go.Proofs.YtjpedimndkibnaaGreatDoorW.PrintLast
