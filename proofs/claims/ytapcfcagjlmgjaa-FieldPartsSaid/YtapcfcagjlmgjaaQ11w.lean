/-
That the layer's law is awake; an index within a screen. No Go in it.
-/
import Derived.Test.YtapcfcagjlmgjaaM1
import Derived.Test.YtapcfcagjlmgjaaPx5
namespace Go.Proofs.Ytapcfcagjlmgjaa.P
open Go.RowKit Go.Proofs.YtapcfcagjlmgjaaW.PrintWords Go.Proofs.YtapcfcagjlmgjaaW.PrintLast
set_option linter.unusedVariables false
set_option linter.unusedSimpArgs false

theorem awake11_10 : shutterlaw11_awake.f 10 = some true := by decide +kernel
theorem awake11_eq (k : Nat) (hk : 10 ≤ k) : shutterlaw11_awake.f k = some true := by
  induction k with
  | zero => omega
  | succ k ih =>
    by_cases h : k + 1 = 10
    · rw [h]; exact awake11_10
    · exact shutterlaw11_awake.mono k _ (ih (by omega))

theorem tmod_idx (a : Int) (n : Nat) (h0 : 0 < n) (ha0 : 0 ≤ a) (ha1 : a ≤ 65535) : Int.tmod (wrap64 a) (n : Int) = a % (n : Int) ∧ 0 ≤ a % (n : Int) ∧ a % (n : Int) < n := by
  rw [w64 (by omega), Int.tmod_eq_emod_of_nonneg ha0]
  exact ⟨rfl, Int.emod_nonneg _ (by omega), Int.emod_lt_of_pos _ (by omega)⟩

theorem cells_len (l : List S39) (a : Int) : (cellsI l a).length ≤ l.length := by
  unfold cellsI
  by_cases h : beginI l a < 0
  · rw [if_pos h]; simp [uptoI]
  · rw [if_neg h]
    have : ∀ (g : Nat → Int) c s, (takeW (isF l) g c s).length ≤ c := by
      intro g c
      induction c with
      | zero => intro s; simp [takeW]
      | succ c ih =>
        intro s
        unfold takeW
        by_cases hp : isF l (g s) = true
        · rw [if_pos hp]; simp
        · rw [if_neg hp, List.length_cons]; have := ih (s + 1); omega
    exact this _ _ _

end Go.Proofs.Ytapcfcagjlmgjaa.P
