/-
That the layer's law is awake. No Go in it.
-/
import Derived.Test.YtggecanpjkpkiaaDoorM8
import Derived.Test.YtggecanpjkpkiaaDoorPx10
namespace Go.Proofs.YtggecanpjkpkiaaDoor.P
open Go.RowKit Go.Proofs.YtggecanpjkpkiaaDoorW.PrintWords Go.Proofs.YtggecanpjkpkiaaDoorW.PrintLast
set_option linter.unusedVariables false
set_option linter.unusedSimpArgs false
theorem awake14_30 : shutterlaw14_awake.f 30 = some true := by decide +kernel
theorem awake14_eq (k : Nat) (hk : 30 ≤ k) : shutterlaw14_awake.f k = some true := by
  induction k with
  | zero => omega
  | succ k ih =>
    by_cases h : k + 1 = 30
    · rw [h]; exact awake14_30
    · exact shutterlaw14_awake.mono k _ (ih (by omega))
end Go.Proofs.YtggecanpjkpkiaaDoor.P
