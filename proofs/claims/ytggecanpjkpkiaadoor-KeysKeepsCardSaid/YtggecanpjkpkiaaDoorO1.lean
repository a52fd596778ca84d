/-
A key that came in, laid open: its kind and its character.
-/
import Derived.Test.YtggecanpjkpkiaaDoorO0
namespace Go.Proofs.YtggecanpjkpkiaaDoor.P
open Go.RowKit Go.ChangeShapes Go.WideShapes Go.Deep Go.Proofs.YtggecanpjkpkiaaDoorW.PrintWords
set_option linter.unusedVariables false
set_option linter.unusedSimpArgs false
section
variable {H : Type} {enc : TypeId × Value → H} {w : World} {base : Nat} {spare : Nat → Bool} {held : Bool}
set_option maxRecDepth 100000 in
theorem key_open {r : Reach} {b0 : Nat} {v : Value} {d : DataW H} {p : List MemPlace} (hv : Value.okWide Tryd.prog w r b0 58 v) (h : DataW.Trod enc Tryd.prog w base spare held 58 v d p) :
    ∃ (a0 a1 : Int), v = .agg #[.int .i64 a0, .int .u8 a1] ∧ (Lit.int .i64 a0).wf = true ∧ (Lit.int .u8 a1).wf = true := by
  obtain ⟨cs, rfl, hsz⟩ := okWide_struct Tryd.underlying58 hv
  have hs : Tryd.prog.cellsOf 58 = 2 := by kernel_rfl
  have hs1 : Tryd.prog.cellsOf 5 = 1 := by kernel_rfl
  have hs4 : Tryd.prog.cellsOf 3 = 1 := by kernel_rfl
  obtain ⟨L⟩ := cs
  rw [hs] at hsz
  match L, hsz with
  | [c0, c1], _ =>
    obtain ⟨fuel, hf0⟩ := h
    obtain ⟨xs, n, rfl, _, _, hx, hf⟩ := DataW.trod_struct Tryd.underlying58 hf0
    match xs, hx with
    | [y0, y1], _ =>
      have h0 := hf 0 _ rfl
      have h1 := hf 1 _ rfl
      simp only [Value.cells, hs1, hs4, List.drop, List.take, List.getElem?_cons_zero, List.getElem?_cons_succ] at h0 h1
      obtain ⟨a0, e0, _, w0⟩ := DataW.trod_int Tryd.underlying3 h0
      obtain ⟨a1, e1, _, w1⟩ := DataW.trod_int Tryd.underlying5 h1
      injection e0 with e0; injection e1 with e1
      subst e0 e1
      exact ⟨a0, a1, rfl, w0, w1⟩
end
end Go.Proofs.YtggecanpjkpkiaaDoor.P
