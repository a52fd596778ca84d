/- Out of the kit's words for this seat: what this seat's texts use (wip/tools/prune.py). -/
import Derived.Test.YtjpedimndkibnaaGreatDoorUTab
namespace Go.Proofs.YtjpedimndkibnaaGreatDoorW.PrintLast
section
variable {P : Program} {ops : Array Oper} {Q : Exit → Act → World → Prop} {md : Region.Mode} {S : World → Prop} {ds : List Nat} {T : Bool × List (List Nat × List Nat)}
end
end Go.Proofs.YtjpedimndkibnaaGreatDoorW.PrintLast
