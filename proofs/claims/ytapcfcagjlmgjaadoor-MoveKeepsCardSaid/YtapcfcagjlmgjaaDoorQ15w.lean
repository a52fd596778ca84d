/-
That the layer's law is awake. No Go in it.
-/
import Derived.Test.YtapcfcagjlmgjaaDoorM5
import Derived.Test.YtapcfcagjlmgjaaDoorPx6
namespace Go.Proofs.YtapcfcagjlmgjaaDoor.P
open Go.RowKit Go.Proofs.YtapcfcagjlmgjaaDoorW.PrintWords Go.Proofs.YtapcfcagjlmgjaaDoorW.PrintLast
set_option linter.unusedVariables false
set_option linter.unusedSimpArgs false
theorem awake15_20 : shutterlaw15_awake.f 20 = some true := by decide +kernel
theorem awake15_eq (k : Nat) (hk : 20 ≤ k) : shutterlaw15_awake.f k = some true := by
  induction k with
  | zero => omega
  | succ k ih =>
    by_cases h : k + 1 = 20
    · rw [h]; exact awake15_20
    · exact shutterlaw15_awake.mono k _ (ih (by omega))
end Go.Proofs.YtapcfcagjlmgjaaDoor.P
