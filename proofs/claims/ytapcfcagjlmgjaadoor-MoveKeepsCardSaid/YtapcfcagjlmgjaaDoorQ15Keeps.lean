/-
MoveKeeps over plain lists. No Go in it.
-/
import Derived.Test.YtapcfcagjlmgjaaDoorQ15w
import Derived.Test.YtapcfcagjlmgjaaDoorO0
import Derived.Test.YtapcfcagjlmgjaaDoorPx15
namespace Go.Proofs.YtapcfcagjlmgjaaDoor.P
open Go.RowKit Go.Proofs.YtapcfcagjlmgjaaDoorW.PrintWords Go.Proofs.YtapcfcagjlmgjaaDoorW.PrintLast
set_option linter.unusedVariables false
set_option linter.unusedSimpArgs false
theorem keeps15_loop (r c : Int) (l : List S44) (cu : Int) (lo ins : Bool) (r' c' cu' : Int) (lo' ins' : Bool) (hl : l.length ≤ 200) : ∀ (d K i : Nat) (L : List S44), L.length ≤ 200 → d + i = L.length → d + 210 < K → shutterlaw15_MoveKeeps.l0 K i r c l cu lo ins r c l cu lo ins r' c' L cu' lo' ins' = some true
  | 0, K, i, L, hL, hd, hk => by
    obtain ⟨K, rfl⟩ : ∃ m, K = m + 1 := ⟨K - 1, by omega⟩
    rw [shutterlaw15_MoveKeeps.l0, if_neg (by omega), rSame_self K r c l cu lo ins (by omega) (by omega), Option.bind_some]
  | d + 1, K, i, L, hL, hd, hk => by
    obtain ⟨K, rfl⟩ : ∃ m, K = m + 1 := ⟨K - 1, by omega⟩
    rw [shutterlaw15_MoveKeeps.l0, if_pos (by omega), if_pos (by omega), w64 (by omega)]
    exact keeps15_loop r c l cu lo ins r' c' cu' lo' ins' hl d K (i + 1) _ (by rw [List.length_set]; exact hL) (by rw [List.length_set]; omega) (by omega)
theorem MoveKeeps_pure (r c : Int) (l : List S44) (cu : Int) (lo ins : Bool) (a : Int) (wl : ∀ x ∈ l, wfC x) (a0 : 0 ≤ a) (a1 : a ≤ 255) : shutterlaw15_MoveKeeps.f 1000 r c l cu lo ins a = some true := by
  unfold shutterlaw15_MoveKeeps.f
  rw [awake15_eq 1000 (by omega), Option.bind_some, if_pos rfl]
  obtain ⟨b, hb, hi⟩ := rFew_eq 1000 r c l cu lo ins (by omega)
  rw [hb, Option.bind_some]
  cases b with
  | false => rw [if_neg (by decide), Option.bind_some]
  | true =>
    obtain ⟨hl, hr⟩ := hi.1 rfl
    rw [if_pos rfl, rCopy_eq r c l cu lo ins (by omega), Option.bind_some, fDo_eq 1000 r c l cu lo ins _ hr (by omega), Option.bind_some]
    simp only
    cases he : (errI lo (wrap64 (2 + wrap64 (a.tmod 8)))).isNone with
    | true =>
      rw [if_pos rfl]
      exact keeps15_loop r c l cu lo ins r c _ lo ins hl l.length 1000 0 l hl rfl (by omega)
    | false => rw [if_neg (by decide), rSame_self 1000 r c l cu lo ins (by omega) (by omega), Option.bind_some]
end Go.Proofs.YtapcfcagjlmgjaaDoor.P
