/- Out of the kit's words for this seat: what this seat's texts use (wip/tools/prune.py). -/
import Derived.Test.YtggecanpjkpkiaaDoorUInv
import Derived.Test.YtggecanpjkpkiaaDoorUFootNe
namespace Go.Proofs.YtggecanpjkpkiaaDoorW.PrintWords
open Go.RowKit
end Go.Proofs.YtggecanpjkpkiaaDoorW.PrintWords
namespace Go.Proofs.YtggecanpjkpkiaaDoorW.PrintLast
section
variable {ops : Array Oper} {a : Act} {o og : Oper} {g : Nat} {t : Tmp} {u : Bool}
end
end Go.Proofs.YtggecanpjkpkiaaDoorW.PrintLast
