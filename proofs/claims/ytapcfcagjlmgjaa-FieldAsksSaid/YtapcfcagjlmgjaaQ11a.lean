/-
The statements FieldAsks and FieldNexts over plain lists: what the law's function answers. No Go in it.
-/
import Derived.Test.YtapcfcagjlmgjaaM1
import Derived.Test.YtapcfcagjlmgjaaO0
import Derived.Test.YtapcfcagjlmgjaaPx10
import Derived.Test.YtapcfcagjlmgjaaPx5
import Derived.Test.YtapcfcagjlmgjaaPx8
namespace Go.Proofs.Ytapcfcagjlmgjaa.P
open Go.RowKit Go.Proofs.YtapcfcagjlmgjaaW.PrintWords Go.Proofs.YtapcfcagjlmgjaaW.PrintLast
set_option linter.unusedVariables false
set_option linter.unusedSimpArgs false

theorem awake11_10 : shutterlaw11_awake.f 10 = some true := by decide +kernel
theorem awake11_eq (k : Nat) (hk : 10 ≤ k) : shutterlaw11_awake.f k = some true := by
  induction k with
  | zero => omega
  | succ k ih =>
    by_cases h : k + 1 = 10
    · rw [h]; exact awake11_10
    · exact shutterlaw11_awake.mono k _ (ih (by omega))

theorem tmod_idx (a : Int) (n : Nat) (h0 : 0 < n) (ha0 : 0 ≤ a) (ha1 : a ≤ 65535) : Int.tmod (wrap64 a) (n : Int) = a % (n : Int) ∧ 0 ≤ a % (n : Int) ∧ a % (n : Int) < n := by
  rw [w64 (by omega), Int.tmod_eq_emod_of_nonneg ha0]
  exact ⟨rfl, Int.emod_nonneg _ (by omega), Int.emod_lt_of_pos _ (by omega)⟩

theorem cells_len (l : List S39) (a : Int) : (cellsI l a).length ≤ l.length := by
  unfold cellsI
  by_cases h : beginI l a < 0
  · rw [if_pos h]; simp [uptoI]
  · rw [if_neg h]
    have : ∀ (g : Nat → Int) c s, (takeW (isF l) g c s).length ≤ c := by
      intro g c
      induction c with
      | zero => intro s; simp [takeW]
      | succ c ih =>
        intro s
        unfold takeW
        by_cases hp : isF l (g s) = true
        · rw [if_pos hp]; simp
        · rw [if_neg hp, List.length_cons]; have := ih (s + 1); omega
    exact this _ _ _

theorem FieldAsks_pure (r c : Int) (l : List S39) (cu : Int) (lo ins : Bool) (a : Int) (wl : ∀ x ∈ l, wfC x) (ha0 : 0 ≤ a) (ha1 : a ≤ 65535) : shutterlaw11_FieldAsks.f 1000 r c l cu lo ins a = some true := by
  unfold shutterlaw11_FieldAsks.f
  rw [awake11_eq 1000 (by omega), Option.bind_some, if_pos rfl]
  obtain ⟨b, hb, hi⟩ := rFew_eq 1000 r c l cu lo ins (by omega)
  rw [hb, Option.bind_some]
  cases b with
  | false => rw [if_neg (by decide), Option.bind_some]
  | true =>
    obtain ⟨hl, hr⟩ := hi.1 rfl
    have hp : 0 < l.length := by have := hr.cu0; have := hr.cu1; omega
    obtain ⟨e, k0, k1⟩ := tmod_idx a l.length hp ha0 ha1
    rw [if_pos rfl, if_neg (by omega), fFormatted_eq r c l cu lo ins (by omega), Option.bind_some, rFormatted_eq 1000 r c l cu lo ins (by omega) (by omega), Option.bind_some, if_neg (by simp), e]
    generalize a % (l.length : Int) = i at k0 k1
    rw [fBegin_eq r c l cu lo ins i (by omega) k0 k1, Option.bind_some, rBegin_eq 1000 r c l cu lo ins i (by omega) k0 k1 (by omega), Option.bind_some, if_pos rfl,
      fCells_eq r c l cu lo ins i (by omega) k0 k1, Option.bind_some, rCells_eq 1000 r c l cu lo ins i (by omega) k0 k1 (by omega), Option.bind_some, rInts_same 1000 _ (by have := cells_len l i; omega) (by have := cells_len l i; omega), Option.bind_some, if_pos rfl,
      fOf_eq r c l cu lo ins i (by omega) k0 k1, Option.bind_some, rOf_eq 1000 r c l cu lo ins i (by omega) k0 k1 (by omega), Option.bind_some, if_pos (by simp),
      fOpen_eq r c l cu lo ins i (by omega) k0 k1, Option.bind_some, rOpen_eq 1000 r c l cu lo ins i (by omega) k0 k1 (by omega), Option.bind_some]
    simp

theorem FieldNexts_pure (r c : Int) (l : List S39) (cu : Int) (lo ins : Bool) (a : Int) (wl : ∀ x ∈ l, wfC x) (ha0 : 0 ≤ a) (ha1 : a ≤ 65535) : shutterlaw11_FieldNexts.f 1000 r c l cu lo ins a = some true := by
  unfold shutterlaw11_FieldNexts.f
  rw [awake11_eq 1000 (by omega), Option.bind_some, if_pos rfl]
  obtain ⟨b, hb, hi⟩ := rFew_eq 1000 r c l cu lo ins (by omega)
  rw [hb, Option.bind_some]
  cases b with
  | false => rw [if_neg (by decide), Option.bind_some]
  | true =>
    obtain ⟨hl, hr⟩ := hi.1 rfl
    have hp : 0 < l.length := by have := hr.cu0; have := hr.cu1; omega
    obtain ⟨e, k0, k1⟩ := tmod_idx a l.length hp ha0 ha1
    rw [if_pos rfl, if_neg (by omega), e]
    generalize a % (l.length : Int) = i at k0 k1
    rw [fNext_eq r c l cu lo ins i (by omega) k0 k1, Option.bind_some, rNext_eq 1000 r c l cu lo ins i (by omega) k0 k1 (by omega), Option.bind_some, if_pos rfl,
      fPrev_eq r c l cu lo ins i (by omega) k0 k1, Option.bind_some, rPrev_eq 1000 r c l cu lo ins i (by omega) k0 k1 (by omega), Option.bind_some]
    simp
end Go.Proofs.Ytapcfcagjlmgjaa.P
