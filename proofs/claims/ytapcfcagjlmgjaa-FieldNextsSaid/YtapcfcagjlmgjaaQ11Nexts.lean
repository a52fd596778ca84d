/-
FieldNexts over plain lists. No Go in it.
-/
import Derived.Test.YtapcfcagjlmgjaaQ11w
import Derived.Test.YtapcfcagjlmgjaaM2
import Derived.Test.YtapcfcagjlmgjaaO0
import Derived.Test.YtapcfcagjlmgjaaPx10
namespace Go.Proofs.Ytapcfcagjlmgjaa.P
open Go.RowKit Go.Proofs.YtapcfcagjlmgjaaW.PrintWords Go.Proofs.YtapcfcagjlmgjaaW.PrintLast
set_option linter.unusedVariables false
set_option linter.unusedSimpArgs false

theorem FieldNexts_pure (r c : Int) (l : List S39) (cu : Int) (lo ins : Bool) (a : Int) (wl : ∀ x ∈ l, wfC x) (ha0 : 0 ≤ a) (ha1 : a ≤ 65535) : shutterlaw11_FieldNexts.f 1000 r c l cu lo ins a = some true := by
  unfold shutterlaw11_FieldNexts.f
  rw [awake11_eq 1000 (by omega), Option.bind_some, if_pos rfl]
  obtain ⟨b, hb, hi⟩ := rFew_eq 1000 r c l cu lo ins (by omega)
  rw [hb, Option.bind_some]
  cases b with
  | false => rw [if_neg (by decide), Option.bind_some]
  | true =>
    obtain ⟨hl, hr⟩ := hi.1 rfl
    have hp : 0 < l.length := by have := hr.cu0; have := hr.cu1; omega
    obtain ⟨e, k0, k1⟩ := tmod_idx a l.length hp ha0 ha1
    rw [if_pos rfl, if_neg (by omega), e]
    generalize a % (l.length : Int) = i at k0 k1
    rw [fNext_eq r c l cu lo ins i (by omega) k0 k1, Option.bind_some, rNext_eq 1000 r c l cu lo ins i (by omega) k0 k1 (by omega), Option.bind_some, if_pos rfl,
      fPrev_eq r c l cu lo ins i (by omega) k0 k1, Option.bind_some, rPrev_eq 1000 r c l cu lo ins i (by omega) k0 k1 (by omega), Option.bind_some]
    simp
end Go.Proofs.Ytapcfcagjlmgjaa.P
