/- Out of the kit's words for this seat: what this seat's texts use (wip/tools/prune.py). -/
import Derived.SizedLaws
import Derived.ChangeSlices
namespace Go.Proofs.YtgboplhcjhlabaaDoorW.PrintWords
open Go.ChangeShapes Go.WideShapes
end Go.Proofs.YtgboplhcjhlabaaDoorW.PrintWords
