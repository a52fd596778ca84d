/-
EditTypes over plain lists. No Go in it.
-/
import Derived.Test.YtggecanpjkpkiaaDoorM9
import Derived.Test.YtggecanpjkpkiaaDoorQ14w
import Derived.Test.YtggecanpjkpkiaaDoorO0
import Derived.Test.YtggecanpjkpkiaaDoorPx14
import Derived.Test.YtggecanpjkpkiaaDoorPx17L
import Derived.Test.YtggecanpjkpkiaaDoorPx4
namespace Go.Proofs.YtggecanpjkpkiaaDoor.P
open Go.RowKit Go.Proofs.YtggecanpjkpkiaaDoorW.PrintWords Go.Proofs.YtggecanpjkpkiaaDoorW.PrintLast
set_option linter.unusedVariables false
set_option linter.unusedSimpArgs false
theorem EditTypes_pure (r c : Int) (l : List S35) (cu : Int) (lo ins : Bool) (a : Int) (wl : ∀ x ∈ l, wfC x) (a0 : 0 ≤ a) (a1 : a ≤ 255) : shutterlaw14_EditTypes.f 1000 r c l cu lo ins a = some true := by
  unfold shutterlaw14_EditTypes.f
  rw [awake14_eq 1000 (by omega), Option.bind_some, if_pos rfl]
  obtain ⟨t, ht, hi⟩ := rFew_eq 1000 r c l cu lo ins (by omega)
  rw [ht, Option.bind_some]
  cases t with
  | false => rw [if_neg (by decide), Option.bind_some]
  | true =>
    obtain ⟨hl, hr⟩ := hi.1 rfl
    have ho := outI_length l cu ins a
    rw [if_pos rfl, fType_eq 1000 r c l cu lo ins a (by omega) hr.cu0 hr.cu1 a0 a1 (by omega), Option.bind_some, rType_eq 1000 r c l cu lo ins a hr a0 a1 (by omega), Option.bind_some]
    unfold typeF typeR
    by_cases h0 : whyI l cu lo ins a = 0
    · simp only [if_pos h0]
      rw [rSame_self 1000 r c (outI l cu ins a) _ lo ins (by omega) (by omega), Option.bind_some, if_pos rfl]
      simp only [api_Code.f, api_Where.f, Option.bind_some]
      rw [if_pos trivial, beq_self_eq_true]
    · simp only [if_neg h0]
      by_cases h3 : whyI l cu lo ins a = 3 ∨ whyI l cu lo ins a = 7
      · simp only [if_pos h3]
        rw [rSame_self 1000 r c l _ lo ins (by omega) (by omega), Option.bind_some, if_pos rfl]
        simp only [api_Code.f, api_Where.f, Option.bind_some]
        rw [if_pos trivial, beq_self_eq_true]
      · simp only [if_neg h3]
        rw [rSame_self 1000 r c l _ true ins (by omega) (by omega), Option.bind_some, if_pos rfl]
        simp only [api_Code.f, api_Where.f, Option.bind_some]
        rw [if_pos trivial, beq_self_eq_true]
end Go.Proofs.YtggecanpjkpkiaaDoor.P
