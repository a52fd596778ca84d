/- Out of the kit's words for this seat: what this seat's texts use (wip/tools/prune.py). -/
import Derived.Test.YtapcfcagjlmgjaaDoorUInv
import Derived.Test.YtapcfcagjlmgjaaDoorUFootNe
namespace Go.Proofs.YtapcfcagjlmgjaaDoorW.PrintWords
open Go.RowKit
end Go.Proofs.YtapcfcagjlmgjaaDoorW.PrintWords
namespace Go.Proofs.YtapcfcagjlmgjaaDoorW.PrintLast
section
variable {ops : Array Oper} {a : Act} {o og : Oper} {g : Nat} {t : Tmp} {u : Bool}
end
end Go.Proofs.YtapcfcagjlmgjaaDoorW.PrintLast
