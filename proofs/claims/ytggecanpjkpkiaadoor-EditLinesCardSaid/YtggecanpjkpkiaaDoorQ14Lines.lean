/-
EditLines over plain lists. No Go in it.
-/
import Derived.Test.YtggecanpjkpkiaaDoorQ14w
import Derived.Test.YtggecanpjkpkiaaDoorO0
import Derived.Test.YtggecanpjkpkiaaDoorPx14
import Derived.Test.YtggecanpjkpkiaaDoorPx18
import Derived.Test.YtggecanpjkpkiaaDoorPx4
namespace Go.Proofs.YtggecanpjkpkiaaDoor.P
open Go.RowKit Go.Proofs.YtggecanpjkpkiaaDoorW.PrintWords Go.Proofs.YtggecanpjkpkiaaDoorW.PrintLast
set_option linter.unusedVariables false
set_option linter.unusedSimpArgs false
theorem EditLines_pure (r c : Int) (l : List S35) (cu : Int) (lo ins : Bool) (a b : Int) (wl : ∀ x ∈ l, wfC x) (a0 : 0 ≤ a) (a1 : a ≤ 65535) (b0 : 0 ≤ b) (b1 : b ≤ 255) : shutterlaw14_EditLines.f 1000 r c l cu lo ins a b = some true := by
  unfold shutterlaw14_EditLines.f
  rw [awake14_eq 1000 (by omega), Option.bind_some, if_pos rfl]
  obtain ⟨t, ht, hi⟩ := rFew_eq 1000 r c l cu lo ins (by omega)
  rw [ht, Option.bind_some]
  cases t with
  | false => rw [if_neg (by decide), Option.bind_some]
  | true =>
    obtain ⟨hl, hr⟩ := hi.1 rfl
    have hp : 0 < l.length := by have := hr.cu0; have := hr.cu1; omega
    rw [if_pos rfl, if_neg (by omega), w64 (x := a) (by omega), Int.tmod_eq_emod_of_nonneg a0]
    have k0 : 0 ≤ a % (l.length : Int) := Int.emod_nonneg _ (by omega)
    have k1 : a % (l.length : Int) < l.length := Int.emod_lt_of_pos _ (by omega)
    obtain ⟨q, hq⟩ : ∃ x, x = a % (l.length : Int) := ⟨_, rfl⟩
    rw [← hq] at k0 k1 ⊢
    have hm := modI_length l q
    rw [fDeny_eq r c l cu lo ins 10 [] (by omega), Option.bind_some, fLine_eq 1000 r c l cu lo ins q (by omega) k0 k1 (by omega), Option.bind_some,
      rLine_eq 1000 r c l cu lo ins q (by omega) k0 k1 (by omega), Option.bind_some, rInts_same 1000 _ (by have := row_len l q; omega) (by have := row_len l q; omega), Option.bind_some, if_pos rfl,
      fModify_eq r c l cu lo ins q (by omega) k0 k1, Option.bind_some, rModify_eq 1000 r c l cu lo ins q (by omega) k0 k1 (by omega), Option.bind_some]
    simp only
    rw [rSame_self 1000 r c (modI l q) cu lo ins (by omega) (by omega), Option.bind_some, if_pos rfl, ← digit_same, digit_eq, Option.bind_some, Option.bind_some, beq_self_eq_true, if_pos rfl, rDeny_eq r c l cu lo ins (by omega), Option.bind_some]
    simp only
    rw [rSame_self 1000 r c l cu true ins (by omega) (by omega), Option.bind_some, if_pos rfl]
    simp only [api_Code.f, api_Where.f, Option.bind_some]
    rw [if_pos trivial, beq_self_eq_true]
end Go.Proofs.YtggecanpjkpkiaaDoor.P
