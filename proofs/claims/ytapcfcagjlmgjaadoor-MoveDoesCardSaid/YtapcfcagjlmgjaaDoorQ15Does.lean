/-
MoveDoes over plain lists. No Go in it.
-/
import Derived.Test.YtapcfcagjlmgjaaDoorQ15w
import Derived.Test.YtapcfcagjlmgjaaDoorO0
import Derived.Test.YtapcfcagjlmgjaaDoorPx13
namespace Go.Proofs.YtapcfcagjlmgjaaDoor.P
open Go.RowKit Go.Proofs.YtapcfcagjlmgjaaDoorW.PrintWords Go.Proofs.YtapcfcagjlmgjaaDoorW.PrintLast
set_option linter.unusedVariables false
set_option linter.unusedSimpArgs false
theorem MoveDoes_pure (r c : Int) (l : List S44) (cu : Int) (lo ins : Bool) (kind : Int) (wl : ∀ x ∈ l, wfC x) (_ : -9223372036854775808 ≤ kind) (_ : kind ≤ 9223372036854775807) : shutterlaw15_MoveDoes.f 1000 r c l cu lo ins kind = some true := by
  unfold shutterlaw15_MoveDoes.f
  rw [awake15_eq 1000 (by omega), Option.bind_some, if_pos rfl]
  obtain ⟨b, hb, hi⟩ := rFew_eq 1000 r c l cu lo ins (by omega)
  rw [hb, Option.bind_some]
  cases b with
  | false => rw [if_neg (by decide), Option.bind_some]
  | true =>
    obtain ⟨hl, hr⟩ := hi.1 rfl
    rw [if_pos rfl, fDo_eq 1000 r c l cu lo ins kind hr (by omega), Option.bind_some, rDo_eq 1000 r c l cu lo ins kind hr (by omega), Option.bind_some]
    simp only
    rw [rSame_self 1000 r c l _ lo ins (by omega) (by omega), Option.bind_some, if_pos rfl]
    unfold api_Code.f move_Moves.f
    rw [Option.bind_some, if_pos rfl]
    by_cases h : kind ≥ 2
    · rw [if_pos h, Option.bind_some, if_pos h]; simp
    · rw [if_neg h, Option.bind_some, if_neg h]; rfl
end Go.Proofs.YtapcfcagjlmgjaaDoor.P
