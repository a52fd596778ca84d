/-
A letter that is typed: the document's answer is the one of edit.Type, over plain lists. No Go in it.
-/
import Derived.Test.YtggecanpjkpkiaaDoorM8
namespace Go.Proofs.YtggecanpjkpkiaaDoor.P
open Go.RowKit Go.Proofs.YtggecanpjkpkiaaDoorW.PrintWords Go.Proofs.YtggecanpjkpkiaaDoorW.PrintLast
set_option linter.unusedVariables false
set_option linter.unusedSimpArgs false
theorem rd_mem_cells (l : List S35) (x : Int) (x0 : 0 ≤ x) (x1 : x < l.length) : rd_T35 l x ∈ l := by
  obtain ⟨m, rfl⟩ := Int.eq_ofNat_of_zero_le x0
  rw [rd_nat l m (by omega)]; exact List.getElem_mem _
/-- a cell of a right screen that begins no field bears a character alone -/
theorem plain_cell {l : List S35} (ok : ∀ x ∈ l, okC x = true) (x : Int) (x0 : 0 ≤ x) (x1 : x < l.length) (h : isF l x = false) : rd_T35 l x = newC (rd_T35 l x).f2 := by
  have := ok _ (rd_mem_cells l x x0 x1)
  unfold isF at h
  revert this h
  generalize rd_T35 l x = z
  obtain ⟨z0, ⟨z1, z2, z3, z4⟩, z5⟩ := z
  intro h this
  change z0 = false at h
  subst h
  unfold okC at this
  simp only [Bool.false_eq_true, if_false, Bool.and_eq_true, Bool.not_eq_true', beq_iff_eq] at this
  obtain ⟨⟨e1, e2, e3, e4⟩, _⟩ := this
  subst e1 e2 e3 e4
  rfl
theorem modI_rd (l : List S35) (a : Int) (hp : 0 < l.length) (x : Int) (x0 : 0 ≤ x) (h : isF l x = false) : rd_T35 (modI l a) x = rd_T35 l x := by
  unfold modI
  rcases begin_range l a hp with hb | ⟨b0, b1, hF⟩
  · rw [hb, if_neg (by decide)]
  · rw [if_pos b0, rd_set l _ x _ b0 b1 x0, if_neg (fun e => by rw [e, h] at hF; cases hF)]
theorem pos_ {α : Type} {P : Prop} [Decidable P] {x y z : α} (h : P) (e : x = z) : (if P then x else y) = z := by rw [if_pos h]; exact e
end Go.Proofs.YtggecanpjkpkiaaDoor.P
