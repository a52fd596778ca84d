/-
A screen that came in, laid open: its numbers, its Bools, and the list of its cells.
-/
import Derived.Test.YtggecanpjkpkiaaDoorJKeysKeeps1
import Derived.ChangeSame
import Derived.Deep.Slices
import Derived.WideShapes
namespace Go.Proofs.YtggecanpjkpkiaaDoor.P
open Go.RowKit Go.ChangeShapes Go.WideShapes Go.Deep Go.Proofs.YtggecanpjkpkiaaDoorW.PrintWords
set_option linter.unusedVariables false
set_option linter.unusedSimpArgs false
section
variable {H : Type} {enc : TypeId × Value → H} {w : World} {base : Nat} {spare : Nat → Bool} {held : Bool}

/-- A cell whose numbers are of their kinds. -/
def wfC (x : S35) : Prop := (Lit.int .i64 x.f1.f2).wf = true ∧ (Lit.int .u8 x.f2).wf = true

set_option maxRecDepth 100000 in
theorem cell_open {fuel : Nat} {cs : List Value} {x : DataW H × List MemPlace} (h : DataW.trod enc Tryd.prog w base spare held fuel 35 cs = some x) :
    ∃ c : S35, wfC c ∧ cs = [.bool c.f0, .bool c.f1.f0, .bool c.f1.f1, .int .i64 c.f1.f2, .bool c.f1.f3, .int .u8 c.f2] := by
  obtain ⟨xs, n, rfl, _, hl, hx, hf⟩ := DataW.trod_struct Tryd.underlying35 h
  have hs : Tryd.prog.cellsOf 35 = 6 := by kernel_rfl
  have hs1 : Tryd.prog.cellsOf 4 = 1 := by kernel_rfl
  have hs2 : Tryd.prog.cellsOf 33 = 4 := by kernel_rfl
  have hs3 : Tryd.prog.cellsOf 5 = 1 := by kernel_rfl
  have hs4 : Tryd.prog.cellsOf 3 = 1 := by kernel_rfl
  rw [hs] at hl
  match cs, hl, xs, hx with
  | [c0, c1, c2, c3, c4, c5], _, [y0, y1, y2], _ =>
    have h0 := hf 0 _ rfl
    have h1 := hf 1 _ rfl
    have h2 := hf 2 _ rfl
    simp only [hs1, hs2, hs3, List.drop, List.take, List.getElem?_cons_zero, List.getElem?_cons_succ] at h0 h1 h2
    obtain ⟨b0, e0, _⟩ := DataW.trod_bool Tryd.underlying4 h0
    obtain ⟨n2, e2, _, w2⟩ := DataW.trod_int Tryd.underlying5 h2
    obtain ⟨zs, m, rfl, _, hl', hx', hf'⟩ := DataW.trod_struct Tryd.underlying33 h1
    match zs, hx' with
    | [z0, z1, z2, z3], _ =>
      have g0 := hf' 0 _ rfl
      have g1 := hf' 1 _ rfl
      have g2 := hf' 2 _ rfl
      have g3 := hf' 3 _ rfl
      simp only [hs1, hs4, List.drop, List.take, List.getElem?_cons_zero, List.getElem?_cons_succ] at g0 g1 g2 g3
      obtain ⟨d0, q0, _⟩ := DataW.trod_bool Tryd.underlying4 g0
      obtain ⟨d1, q1, _⟩ := DataW.trod_bool Tryd.underlying4 g1
      obtain ⟨d2, q2, _, w3⟩ := DataW.trod_int Tryd.underlying3 g2
      obtain ⟨d3, q3, _⟩ := DataW.trod_bool Tryd.underlying4 g3
      refine ⟨⟨b0, ⟨d0, d1, d2, d3⟩, n2⟩, ⟨w3, w2⟩, ?_⟩
      injection e0 with e0; injection e2 with e2; injection q0 with q0; injection q1 with q1; injection q2 with q2; injection q3 with q3
      subst e0 e2 q0 q1 q2 q3
      rfl
theorem cells_open {fuel : Nat} {cs : List Value} {x : DataW H × List MemPlace} (h : DataW.trod enc Tryd.prog w base spare held fuel 22 cs = some x) :
    ∃ (A : Option Addr) (cap : Nat) (l : List S35), cs = [.slice A l.length cap] ∧ l.length ≤ cap ∧ (∀ c ∈ l, wfC c) ∧ Kd.C k35 w A l.length l := by
  have hs : Tryd.prog.cellsOf 35 = 6 := by kernel_rfl
  rcases open_slice Tryd.underlying22 h with ⟨rfl, _⟩ | ⟨a, len, cap, m, n, D, Pl, rfl, _, hlc, hcm, hm, _, hi⟩
  · exact ⟨none, 0, [], rfl, Nat.le_refl _, by simp, Kd.C_nil _ _⟩
  · have hlm : len ≤ m := by rw [hm]; split <;> omega
    have hex : ∀ i, i < len → ∃ c : S35, wfC c ∧ ∀ j u, [Value.bool c.f0, .bool c.f1.f0, .bool c.f1.f1, .int .i64 c.f1.f2, .bool c.f1.f3, .int .u8 c.f2][j]? = some u → w.cell? (a.add (i * 6 + j)) = some u := by
      intro i hlt
      obtain ⟨cs', hc, ht⟩ := hi i (by omega)
      rw [hs] at hc
      obtain ⟨c, hw, rfl⟩ := cell_open ht
      obtain ⟨_, _, hat⟩ := World.cells?_some hc
      refine ⟨c, hw, fun j u hu => ?_⟩
      have hj : j < 6 := by
        rcases Nat.lt_or_ge j 6 with h' | h'
        · exact h'
        · rw [List.getElem?_eq_none (by simpa using h')] at hu; cases hu
      rw [← Go.Deep.add_add, hat j hj]; exact hu
    have pick : ∀ k, k ≤ len → ∃ l : List S35, l.length = k ∧ (∀ c ∈ l, wfC c) ∧ ∀ i c, l[i]? = some c → ∀ j u, [Value.bool c.f0, .bool c.f1.f0, .bool c.f1.f1, .int .i64 c.f1.f2, .bool c.f1.f3, .int .u8 c.f2][j]? = some u → w.cell? (a.add (i * 6 + j)) = some u := by
      intro k
      induction k with
      | zero => exact fun _ => ⟨[], rfl, by simp, by simp⟩
      | succ k ih =>
        intro hk
        obtain ⟨l, rfl, hw, hl⟩ := ih (by omega)
        obtain ⟨c, hcw, hc⟩ := hex l.length (by omega)
        refine ⟨l ++ [c], by simp, fun x hx => ?_, fun i d hd => ?_⟩
        · rcases List.mem_append.1 hx with h' | h'
          · exact hw x h'
          · simp at h'; subst h'; exact hcw
        · rcases Nat.lt_trichotomy i l.length with h' | rfl | h'
          · rw [List.getElem?_append_left h'] at hd; exact hl i d hd
          · simp at hd; subst hd; exact hc
          · rw [List.getElem?_eq_none (by simp; omega)] at hd; cases hd
    obtain ⟨l, rfl, hw, hl⟩ := pick len (Nat.le_refl _)
    refine ⟨some a, cap, l, rfl, hlc, hw, rfl, by have : maxLen = 9223372036854775807 := rfl; omega, fun _ => ⟨a, rfl, fun j p hp => ⟨_, rfl, k35_mk w p, fun i u hu => hl j p hp i u hu⟩⟩⟩

set_option maxRecDepth 100000 in
/-- A screen that came in, laid open. -/
theorem screen_open {r : Reach} {b0 : Nat} {v : Value} {d : DataW H} {p : List MemPlace} (hv : Value.okWide Tryd.prog w r b0 24 v) (h : DataW.Trod enc Tryd.prog w base spare held 24 v d p) :
    ∃ (a0 a1 : Int) (A : Option Addr) (c : Nat) (l : List S35) (a3 : Int) (a4 a5 : Bool), v = .agg #[.int .i64 a0, .int .i64 a1, .slice A l.length c, .int .i64 a3, .bool a4, .bool a5] ∧ l.length ≤ c ∧ Kd.C k35 w A l.length l ∧ (∀ x ∈ l, wfC x) ∧ (Lit.int .i64 a0).wf = true ∧ (Lit.int .i64 a1).wf = true ∧ (Lit.int .i64 a3).wf = true := by
  obtain ⟨cs, rfl, hsz⟩ := okWide_struct Tryd.underlying24 hv
  have hs : Tryd.prog.cellsOf 24 = 6 := by kernel_rfl
  have hs1 : Tryd.prog.cellsOf 4 = 1 := by kernel_rfl
  have hs3 : Tryd.prog.cellsOf 22 = 1 := by kernel_rfl
  have hs4 : Tryd.prog.cellsOf 3 = 1 := by kernel_rfl
  obtain ⟨L⟩ := cs
  rw [hs] at hsz
  match L, hsz with
  | [c0, c1, c2, c3, c4, c5], _ =>
    obtain ⟨fuel, hf0⟩ := h
    obtain ⟨xs, n, rfl, _, _, hx, hf⟩ := DataW.trod_struct Tryd.underlying24 hf0
    match xs, hx with
    | [y0, y1, y2, y3, y4, y5], _ =>
      have h0 := hf 0 _ rfl
      have h1 := hf 1 _ rfl
      have h2 := hf 2 _ rfl
      have h3 := hf 3 _ rfl
      have h4 := hf 4 _ rfl
      have h5 := hf 5 _ rfl
      simp only [Value.cells, hs1, hs3, hs4, List.drop, List.take, List.getElem?_cons_zero, List.getElem?_cons_succ] at h0 h1 h2 h3 h4 h5
      obtain ⟨a0, e0, _, w0⟩ := DataW.trod_int Tryd.underlying3 h0
      obtain ⟨a1, e1, _, w1⟩ := DataW.trod_int Tryd.underlying3 h1
      obtain ⟨A, cap, l, e2, hlc, hw, hC⟩ := cells_open h2
      obtain ⟨a3, e3, _, w3⟩ := DataW.trod_int Tryd.underlying3 h3
      obtain ⟨a4, e4, _⟩ := DataW.trod_bool Tryd.underlying4 h4
      obtain ⟨a5, e5, _⟩ := DataW.trod_bool Tryd.underlying4 h5
      injection e0 with e0; injection e1 with e1; injection e2 with e2; injection e3 with e3; injection e4 with e4; injection e5 with e5
      subst e0 e1 e2 e3 e4 e5
      exact ⟨a0, a1, A, cap, l, a3, a4, a5, rfl, hlc, hC, hw, w0, w1, w3⟩
end

theorem wf_i64 {a : Int} (h : (Lit.int .i64 a).wf = true) : -9223372036854775808 ≤ a ∧ a ≤ 9223372036854775807 := by
  unfold Lit.wf at h
  rw [Bool.and_eq_true] at h
  exact ⟨of_decide_eq_true h.1, of_decide_eq_true h.2⟩
theorem wf_u8 {a : Int} (h : (Lit.int .u8 a).wf = true) : 0 ≤ a ∧ a ≤ 255 := by
  unfold Lit.wf at h
  rw [Bool.and_eq_true] at h
  exact ⟨of_decide_eq_true h.1, of_decide_eq_true h.2⟩
theorem wf_u16 {a : Int} (h : (Lit.int .u16 a).wf = true) : 0 ≤ a ∧ a ≤ 65535 := by
  unfold Lit.wf at h
  rw [Bool.and_eq_true] at h
  exact ⟨of_decide_eq_true h.1, of_decide_eq_true h.2⟩
end Go.Proofs.YtggecanpjkpkiaaDoor.P
