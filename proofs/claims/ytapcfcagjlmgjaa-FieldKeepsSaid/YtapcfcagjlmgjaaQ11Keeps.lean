/-
FieldKeeps over plain lists. No Go in it.
-/
import Derived.Test.YtapcfcagjlmgjaaQ11w
import Derived.Test.YtapcfcagjlmgjaaM2
import Derived.Test.YtapcfcagjlmgjaaM3
import Derived.Test.YtapcfcagjlmgjaaO0
import Derived.Test.YtapcfcagjlmgjaaPx14
namespace Go.Proofs.Ytapcfcagjlmgjaa.P
open Go.RowKit Go.Proofs.YtapcfcagjlmgjaaW.PrintWords Go.Proofs.YtapcfcagjlmgjaaW.PrintLast
set_option linter.unusedVariables false
set_option linter.unusedSimpArgs false

theorem keeps_l1 (r c : Int) (l : List S39) (cu : Int) (lo ins : Bool) (a : Int) (hn : l.length ≤ 200) (h0 : 0 ≤ a) (h1 : a < l.length) : ∀ (d k i : Nat) (x : List Int), d + i = x.length → x.length ≤ 200 → d + 300 < k → shutterlaw11_FieldKeeps.l1 k a x i r c l cu lo ins r c l cu lo ins = some true
  | 0, k, i, x, hd, hx, hk => by
    obtain ⟨k, rfl⟩ : ∃ m, k = m + 1 := ⟨k - 1, by omega⟩
    rw [shutterlaw11_FieldKeeps.l1, if_neg (by omega), rSame_self k r c l cu lo ins (by omega) (by omega), Option.bind_some, if_pos rfl, fCells_eq r c l cu lo ins a (by omega) h0 h1, Option.bind_some, rCells_eq k r c l cu lo ins a (by omega) h0 h1 (by omega), Option.bind_some, rInts_same k _ (by have := cells_len l a; omega) (by have := cells_len l a; omega), Option.bind_some]
  | d + 1, k, i, x, hd, hx, hk => by
    obtain ⟨k, rfl⟩ : ∃ m, k = m + 1 := ⟨k - 1, by omega⟩
    rw [shutterlaw11_FieldKeeps.l1, if_pos (by omega), if_pos (by omega), w64 (by omega)]
    exact keeps_l1 r c l cu lo ins a hn h0 h1 d k (i + 1) _ (by rw [List.length_set]; omega) (by rw [List.length_set]; omega) (by omega)
theorem keeps_l0 (r c : Int) (l : List S39) (cu : Int) (lo ins : Bool) (a : Int) (hn : l.length ≤ 200) (h0 : 0 ≤ a) (h1 : a < l.length) (y : List Int) (hy : y.length ≤ 200) : ∀ (d k i : Nat) (x : List Int), d + i = x.length → x.length ≤ 200 → d + 600 < k → shutterlaw11_FieldKeeps.l0 k a x y i r c l cu lo ins r c l cu lo ins = some true
  | 0, k, i, x, hd, hx, hk => by
    obtain ⟨k, rfl⟩ : ∃ m, k = m + 1 := ⟨k - 1, by omega⟩
    rw [shutterlaw11_FieldKeeps.l0, if_neg (by omega)]
    exact keeps_l1 r c l cu lo ins a hn h0 h1 y.length k 0 y rfl hy (by omega)
  | d + 1, k, i, x, hd, hx, hk => by
    obtain ⟨k, rfl⟩ : ∃ m, k = m + 1 := ⟨k - 1, by omega⟩
    rw [shutterlaw11_FieldKeeps.l0, if_pos (by omega), if_pos (by omega), w64 (by omega)]
    exact keeps_l0 r c l cu lo ins a hn h0 h1 y hy d k (i + 1) _ (by rw [List.length_set]; omega) (by rw [List.length_set]; omega) (by omega)
theorem FieldKeeps_pure (r c : Int) (l : List S39) (cu : Int) (lo ins : Bool) (a : Int) (wl : ∀ x ∈ l, wfC x) (ha0 : 0 ≤ a) (ha1 : a ≤ 65535) : shutterlaw11_FieldKeeps.f 1000 r c l cu lo ins a = some true := by
  unfold shutterlaw11_FieldKeeps.f
  rw [awake11_eq 1000 (by omega), Option.bind_some, if_pos rfl]
  obtain ⟨b, hb, hi⟩ := rFew_eq 1000 r c l cu lo ins (by omega)
  rw [hb, Option.bind_some]
  cases b with
  | false => rw [if_neg (by decide), Option.bind_some]
  | true =>
    obtain ⟨hl, hr⟩ := hi.1 rfl
    have hp : 0 < l.length := by have := hr.cu0; have := hr.cu1; omega
    obtain ⟨e, k0, k1⟩ := tmod_idx a l.length hp ha0 ha1
    rw [if_pos rfl, rCopy_eq r c l cu lo ins (by omega), Option.bind_some, if_neg (by omega), e]
    generalize a % (l.length : Int) = i at k0 k1
    rw [fCells_eq r c l cu lo ins i (by omega) k0 k1, Option.bind_some, fBegins_eq 1000 r c l cu lo ins (by omega) (by omega), Option.bind_some]
    exact keeps_l0 r c l cu lo ins i hl k0 k1 _ (by have := begins_len l; omega) (cellsI l i).length 1000 0 _ rfl (by have := cells_len l i; omega) (by have := cells_len l i; omega)
end Go.Proofs.Ytapcfcagjlmgjaa.P
