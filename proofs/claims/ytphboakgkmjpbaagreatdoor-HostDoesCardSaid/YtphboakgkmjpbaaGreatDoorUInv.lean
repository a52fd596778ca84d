/- Out of the kit's words for this seat: what this seat's texts use (wip/tools/prune.py). -/
import Derived.Test.YtphboakgkmjpbaaGreatDoorUTab
namespace Go.Proofs.YtphboakgkmjpbaaGreatDoorW.PrintLast
def up (b : Nat → Bool) (i : Nat) : Nat → Bool := fun j => if j = i then true else b j
end Go.Proofs.YtphboakgkmjpbaaGreatDoorW.PrintLast
