/- Out of the kit's words for this seat: what this seat's texts use (wip/tools/prune.py). -/
import Derived.Test.YtgboplhcjhlabaaDoorUInv
import Derived.Test.YtgboplhcjhlabaaDoorUFootNe
namespace Go.Proofs.YtgboplhcjhlabaaDoorW.PrintWords
open Go.RowKit
end Go.Proofs.YtgboplhcjhlabaaDoorW.PrintWords
namespace Go.Proofs.YtgboplhcjhlabaaDoorW.PrintLast
section
variable {ops : Array Oper} {a : Act} {o og : Oper} {g : Nat} {t : Tmp} {u : Bool}
end
end Go.Proofs.YtgboplhcjhlabaaDoorW.PrintLast
