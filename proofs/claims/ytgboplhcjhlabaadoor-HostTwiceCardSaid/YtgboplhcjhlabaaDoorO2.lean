/-
An order that came in, laid open: its kind, its text, its attribute, its place and its character.
-/
import Derived.Test.YtgboplhcjhlabaaDoorO0
import Derived.ChangeSlices
namespace Go.Proofs.YtgboplhcjhlabaaDoor.P
open Go.RowKit Go.ChangeShapes Go.WideShapes Go.Deep Go.Proofs.YtgboplhcjhlabaaDoorW.PrintWords
set_option linter.unusedVariables false
set_option linter.unusedSimpArgs false
section
variable {H : Type} {enc : TypeId × Value → H} {w : World} {base : Nat} {spare : Nat → Bool} {held : Bool}
theorem bytes_open {fuel : Nat} {cs : List Value} {x : DataW H × List MemPlace} (h : DataW.trod enc Tryd.prog w base spare held fuel 26 cs = some x) :
    ∃ (A : Option Addr) (cap : Nat) (l : List Int), cs = [.slice A l.length cap] ∧ l.length ≤ cap ∧ (∀ c ∈ l, (Lit.int .u8 c).wf = true) ∧ Kd.C (Kd.int .u8) w A l.length l := by
  rcases open_ints Tryd.underlying26 Tryd.underlying5 (by kernel_rfl) h with ⟨rfl, _⟩ | ⟨a, len, cap, zs, rfl, _, hlc, hcm, hz, _, hcell, hw⟩
  · exact ⟨none, 0, [], rfl, Nat.le_refl _, by simp, Kd.C_nil _ _⟩
  · have hle : len ≤ zs.length := by rw [hz]; split <;> omega
    have hlen : (zs.take len).length = len := by simp [hle]
    refine ⟨some a, cap, zs.take len, by rw [hlen], by rw [hlen]; exact hlc, fun c hc => hw c (List.mem_of_mem_take hc), ?_⟩
    refine Kd.C_of_reads (d := (0 : Int)) ⟨rfl, by have : maxLen = 9223372036854775807 := rfl; omega, fun _ => ⟨a, rfl, fun j hj => ?_⟩⟩
    have hj' : j < len := by omega
    rw [hcell j (by omega)]
    simp [List.getD, List.getElem?_take, hj']
set_option maxRecDepth 100000 in
theorem order_open {r : Reach} {b0 : Nat} {v : Value} {d : DataW H} {p : List MemPlace} (hv : Value.okWide Tryd.prog w r b0 30 v) (h : DataW.Trod enc Tryd.prog w base spare held 30 v d p) :
    ∃ (a0 : Int) (A : Option Addr) (c : Nat) (l : List Int) (b0 b1 : Bool) (a4 : Int) (b3 : Bool) (a6 a7 : Int), v = .agg #[.int .i64 a0, .slice A l.length c, .bool b0, .bool b1, .int .i64 a4, .bool b3, .int .i64 a6, .int .u8 a7] ∧ l.length ≤ c ∧ Kd.C (Kd.int .u8) w A l.length l ∧ (∀ x ∈ l, (Lit.int .u8 x).wf = true) ∧ (Lit.int .i64 a0).wf = true ∧ (Lit.int .i64 a4).wf = true ∧ (Lit.int .i64 a6).wf = true ∧ (Lit.int .u8 a7).wf = true := by
  obtain ⟨cs, rfl, hsz⟩ := okWide_struct Tryd.underlying30 hv
  have hs : Tryd.prog.cellsOf 30 = 8 := by kernel_rfl
  have hs1 : Tryd.prog.cellsOf 4 = 1 := by kernel_rfl
  have hs2 : Tryd.prog.cellsOf 28 = 4 := by kernel_rfl
  have hs3 : Tryd.prog.cellsOf 5 = 1 := by kernel_rfl
  have hs4 : Tryd.prog.cellsOf 3 = 1 := by kernel_rfl
  have hs5 : Tryd.prog.cellsOf 26 = 1 := by kernel_rfl
  obtain ⟨L⟩ := cs
  rw [hs] at hsz
  match L, hsz with
  | [c0, c1, c2, c3, c4, c5, c6, c7], _ =>
    obtain ⟨fuel, hf0⟩ := h
    obtain ⟨xs, n, rfl, _, _, hx, hf⟩ := DataW.trod_struct Tryd.underlying30 hf0
    match xs, hx with
    | [y0, y1, y2, y3, y4], _ =>
      have h0 := hf 0 _ rfl
      have h1 := hf 1 _ rfl
      have h2 := hf 2 _ rfl
      have h3 := hf 3 _ rfl
      have h4 := hf 4 _ rfl
      simp only [Value.cells, hs1, hs2, hs3, hs4, hs5, List.drop, List.take, List.getElem?_cons_zero, List.getElem?_cons_succ] at h0 h1 h2 h3 h4
      obtain ⟨a0, e0, _, w0⟩ := DataW.trod_int Tryd.underlying3 h0
      obtain ⟨A, cap, l, e1, hlc, hw, hC⟩ := bytes_open h1
      obtain ⟨a6, e3, _, w3⟩ := DataW.trod_int Tryd.underlying3 h3
      obtain ⟨a7, e4, _, w4⟩ := DataW.trod_int Tryd.underlying5 h4
      obtain ⟨zs, m, rfl, _, hl', hx', hf'⟩ := DataW.trod_struct Tryd.underlying28 h2
      match zs, hx' with
      | [z0, z1, z2, z3], _ =>
        have g0 := hf' 0 _ rfl
        have g1 := hf' 1 _ rfl
        have g2 := hf' 2 _ rfl
        have g3 := hf' 3 _ rfl
        simp only [hs1, hs4, List.drop, List.take, List.getElem?_cons_zero, List.getElem?_cons_succ] at g0 g1 g2 g3
        obtain ⟨d0, q0, _⟩ := DataW.trod_bool Tryd.underlying4 g0
        obtain ⟨d1, q1, _⟩ := DataW.trod_bool Tryd.underlying4 g1
        obtain ⟨d2, q2, _, w2⟩ := DataW.trod_int Tryd.underlying3 g2
        obtain ⟨d3, q3, _⟩ := DataW.trod_bool Tryd.underlying4 g3
        injection e0 with e0; injection e1 with e1; injection e3 with e3; injection e4 with e4; injection q0 with q0; injection q1 with q1; injection q2 with q2; injection q3 with q3
        subst e0 e1 e3 e4 q0 q1 q2 q3
        exact ⟨a0, A, cap, l, d0, d1, d2, d3, a6, a7, rfl, hlc, hC, hw, w0, w2, w3, w4⟩
end
end Go.Proofs.YtgboplhcjhlabaaDoor.P
