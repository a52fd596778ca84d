/-
Orders that came in, and a command, laid open: the list of the orders.
-/
import Derived.Test.YtgboplhcjhlabaaDoorO2
import Derived.Test.YtgboplhcjhlabaaDoorPx0L
namespace Go.Proofs.YtgboplhcjhlabaaDoor.P
open Go.RowKit Go.ChangeShapes Go.WideShapes Go.Deep Go.Proofs.YtgboplhcjhlabaaDoorW.PrintWords
set_option linter.unusedVariables false
set_option linter.unusedSimpArgs false
section
variable {H : Type} {enc : TypeId × Value → H} {w : World} {base : Nat} {spare : Nat → Bool} {held : Bool}
/-- An order whose bytes are bytes. -/
def wfO (o : S30) : Prop := (∀ x ∈ o.f1, (Lit.int .u8 x).wf = true) ∧ (Lit.int .u8 o.f4).wf = true
def ordC (o : S30) (A : Option Addr) (c : Nat) : List Value := [.int .i64 o.f0, .slice A o.f1.length c, .bool o.f2.f0, .bool o.f2.f1, .int .i64 o.f2.f2, .bool o.f2.f3, .int .i64 o.f3, .int .u8 o.f4]
set_option maxRecDepth 100000 in
theorem order_at {fuel : Nat} {cs : List Value} {x : DataW H × List MemPlace} (h : DataW.trod enc Tryd.prog w base spare held fuel 30 cs = some x) :
    ∃ (o : S30) (A : Option Addr) (c : Nat), wfO o ∧ o.f1.length ≤ c ∧ Kd.C (Kd.int .u8) w A o.f1.length o.f1 ∧ cs = ordC o A c := by
  obtain ⟨xs, n, rfl, _, hl, hx, hf⟩ := DataW.trod_struct Tryd.underlying30 h
  have hs : Tryd.prog.cellsOf 30 = 8 := by kernel_rfl
  have hs1 : Tryd.prog.cellsOf 4 = 1 := by kernel_rfl
  have hs2 : Tryd.prog.cellsOf 28 = 4 := by kernel_rfl
  have hs3 : Tryd.prog.cellsOf 5 = 1 := by kernel_rfl
  have hs4 : Tryd.prog.cellsOf 3 = 1 := by kernel_rfl
  have hs5 : Tryd.prog.cellsOf 26 = 1 := by kernel_rfl
  rw [hs] at hl
  match cs, hl, xs, hx with
  | [c0, c1, c2, c3, c4, c5, c6, c7], _, [y0, y1, y2, y3, y4], _ =>
    have h0 := hf 0 _ rfl
    have h1 := hf 1 _ rfl
    have h2 := hf 2 _ rfl
    have h3 := hf 3 _ rfl
    have h4 := hf 4 _ rfl
    simp only [hs1, hs2, hs3, hs4, hs5, List.drop, List.take, List.getElem?_cons_zero, List.getElem?_cons_succ] at h0 h1 h2 h3 h4
    obtain ⟨a0, e0, _, w0⟩ := DataW.trod_int Tryd.underlying3 h0
    obtain ⟨A, cap, l, e1, hlc, hw, hC⟩ := bytes_open h1
    obtain ⟨a6, e3, _, w3⟩ := DataW.trod_int Tryd.underlying3 h3
    obtain ⟨a7, e4, _, w4⟩ := DataW.trod_int Tryd.underlying5 h4
    obtain ⟨zs, m, rfl, _, hl', hx', hf'⟩ := DataW.trod_struct Tryd.underlying28 h2
    match zs, hx' with
    | [z0, z1, z2, z3], _ =>
      have g0 := hf' 0 _ rfl
      have g1 := hf' 1 _ rfl
      have g2 := hf' 2 _ rfl
      have g3 := hf' 3 _ rfl
      simp only [hs1, hs4, List.drop, List.take, List.getElem?_cons_zero, List.getElem?_cons_succ] at g0 g1 g2 g3
      obtain ⟨d0, q0, _⟩ := DataW.trod_bool Tryd.underlying4 g0
      obtain ⟨d1, q1, _⟩ := DataW.trod_bool Tryd.underlying4 g1
      obtain ⟨d2, q2, _, w2⟩ := DataW.trod_int Tryd.underlying3 g2
      obtain ⟨d3, q3, _⟩ := DataW.trod_bool Tryd.underlying4 g3
      injection e0 with e0; injection e1 with e1; injection e3 with e3; injection e4 with e4; injection q0 with q0; injection q1 with q1; injection q2 with q2; injection q3 with q3
      subst e0 e1 e3 e4 q0 q1 q2 q3
      exact ⟨⟨a0, l, ⟨d0, d1, d2, d3⟩, a6, a7⟩, A, cap, ⟨hw, w4⟩, hlc, hC, rfl⟩
set_option maxRecDepth 100000 in
theorem orders_at {fuel : Nat} {cs : List Value} {x : DataW H × List MemPlace} (h : DataW.trod enc Tryd.prog w base spare held fuel 46 cs = some x) :
    ∃ (A : Option Addr) (cap : Nat) (l : List S30), cs = [.slice A l.length cap] ∧ l.length ≤ cap ∧ (∀ o ∈ l, wfO o) ∧ Kd.C k30 w A l.length l := by
  have hs : Tryd.prog.cellsOf 30 = 8 := by kernel_rfl
  rcases open_slice Tryd.underlying46 h with ⟨rfl, _⟩ | ⟨a, len, cap, m, n, D, Pl, rfl, _, hlc, hcm, hm, _, hi⟩
  · exact ⟨none, 0, [], rfl, Nat.le_refl _, by simp, Kd.C_nil _ _⟩
  · have hlm : len ≤ m := by rw [hm]; split <;> omega
    have hex : ∀ i, i < len → ∃ (o : S30) (A : Option Addr) (c : Nat), wfO o ∧ o.f1.length ≤ c ∧ Kd.C (Kd.int .u8) w A o.f1.length o.f1 ∧ ∀ j u, (ordC o A c)[j]? = some u → w.cell? (a.add (i * 8 + j)) = some u := by
      intro i hlt
      obtain ⟨cs', hc, ht⟩ := hi i (by omega)
      rw [hs] at hc
      obtain ⟨o, A, c, hw, h1, h2, rfl⟩ := order_at ht
      obtain ⟨_, _, hat⟩ := World.cells?_some hc
      refine ⟨o, A, c, hw, h1, h2, fun j u hu => ?_⟩
      have hj : j < 8 := by
        rcases Nat.lt_or_ge j 8 with h' | h'
        · exact h'
        · rw [List.getElem?_eq_none (by simpa [ordC] using h')] at hu; cases hu
      rw [← Go.Deep.add_add, hat j hj]; exact hu
    have pick : ∀ k, k ≤ len → ∃ l : List S30, l.length = k ∧ (∀ o ∈ l, wfO o) ∧ ∀ i o, l[i]? = some o → ∃ (A : Option Addr) (c : Nat), o.f1.length ≤ c ∧ Kd.C (Kd.int .u8) w A o.f1.length o.f1 ∧ ∀ j u, (ordC o A c)[j]? = some u → w.cell? (a.add (i * 8 + j)) = some u := by
      intro k
      induction k with
      | zero => exact fun _ => ⟨[], rfl, by simp, by simp⟩
      | succ k ih =>
        intro hk
        obtain ⟨l, rfl, hw, hl⟩ := ih (by omega)
        obtain ⟨o, A, c, hcw, hc1, hc2, hc⟩ := hex l.length (by omega)
        refine ⟨l ++ [o], by simp, fun x hx => ?_, fun i d hd => ?_⟩
        · rcases List.mem_append.1 hx with h' | h'
          · exact hw x h'
          · simp at h'; subst h'; exact hcw
        · rcases Nat.lt_trichotomy i l.length with h' | rfl | h'
          · rw [List.getElem?_append_left h'] at hd; exact hl i d hd
          · simp at hd; subst hd; exact ⟨A, c, hc1, hc2, hc⟩
          · rw [List.getElem?_eq_none (by simp; omega)] at hd; cases hd
    obtain ⟨l, rfl, hw, hl⟩ := pick len (Nat.le_refl _)
    refine ⟨some a, cap, l, rfl, hlc, hw, rfl, by have : maxLen = 9223372036854775807 := rfl; omega, fun _ => ⟨a, rfl, fun j p hp => ?_⟩⟩
    obtain ⟨A, c, h1, h2, h3⟩ := hl j p hp
    exact ⟨_, rfl, k30_mk w p h1 h2, fun i u hu => h3 i u hu⟩
set_option maxRecDepth 100000 in
/-- Orders that came in. -/
theorem orders_open {r : Reach} {b0 : Nat} {v : Value} {d : DataW H} {p : List MemPlace} (hv : Value.okWide Tryd.prog w r b0 46 v) (h : DataW.Trod enc Tryd.prog w base spare held 46 v d p) :
    ∃ (A : Option Addr) (cap : Nat) (l : List S30), v = .slice A l.length cap ∧ l.length ≤ cap ∧ Kd.C k30 w A l.length l ∧ ∀ o ∈ l, wfO o := by
  obtain ⟨a, n, c, rfl⟩ := okWide_slice Tryd.underlying46 hv
  obtain ⟨fuel, hf⟩ := h
  obtain ⟨A, cap, l, e, h1, h2, h3⟩ := orders_at hf
  simp only [Value.cells, List.cons.injEq, and_true] at e
  exact ⟨A, cap, l, e, h1, h3, h2⟩
set_option maxRecDepth 100000 in
/-- A command that came in. -/
theorem out_open {r : Reach} {b0 : Nat} {v : Value} {d : DataW H} {p : List MemPlace} (hv : Value.okWide Tryd.prog w r b0 60 v) (h : DataW.Trod enc Tryd.prog w base spare held 60 v d p) :
    ∃ (a0 : Int) (b1 b2 b3 : Bool) (A : Option Addr) (cap : Nat) (l : List S30), v = .agg #[.int .i64 a0, .bool b1, .bool b2, .bool b3, .slice A l.length cap] ∧ l.length ≤ cap ∧ Kd.C k30 w A l.length l ∧ ∀ o ∈ l, wfO o := by
  obtain ⟨cs, rfl, hsz⟩ := okWide_struct Tryd.underlying60 hv
  have hs : Tryd.prog.cellsOf 60 = 5 := by kernel_rfl
  have hs1 : Tryd.prog.cellsOf 4 = 1 := by kernel_rfl
  have hs2 : Tryd.prog.cellsOf 58 = 3 := by kernel_rfl
  have hs4 : Tryd.prog.cellsOf 3 = 1 := by kernel_rfl
  have hs5 : Tryd.prog.cellsOf 46 = 1 := by kernel_rfl
  obtain ⟨L⟩ := cs
  rw [hs] at hsz
  match L, hsz with
  | [c0, c1, c2, c3, c4], _ =>
    obtain ⟨fuel, hf0⟩ := h
    obtain ⟨xs, n, rfl, _, _, hx, hf⟩ := DataW.trod_struct Tryd.underlying60 hf0
    match xs, hx with
    | [y0, y1, y2], _ =>
      have h0 := hf 0 _ rfl
      have h1 := hf 1 _ rfl
      have h2 := hf 2 _ rfl
      simp only [Value.cells, hs1, hs2, hs4, hs5, List.drop, List.take, List.getElem?_cons_zero, List.getElem?_cons_succ] at h0 h1 h2
      obtain ⟨a0, e0, _, w0⟩ := DataW.trod_int Tryd.underlying3 h0
      obtain ⟨A, cap, l, e2, hlc, hw, hC⟩ := orders_at h2
      obtain ⟨zs, m, rfl, _, hl', hx', hf'⟩ := DataW.trod_struct Tryd.underlying58 h1
      match zs, hx' with
      | [z0, z1, z2], _ =>
        have g0 := hf' 0 _ rfl
        have g1 := hf' 1 _ rfl
        have g2 := hf' 2 _ rfl
        simp only [hs1, List.drop, List.take, List.getElem?_cons_zero, List.getElem?_cons_succ] at g0 g1 g2
        obtain ⟨d0, q0, _⟩ := DataW.trod_bool Tryd.underlying4 g0
        obtain ⟨d1, q1, _⟩ := DataW.trod_bool Tryd.underlying4 g1
        obtain ⟨d2, q2, _⟩ := DataW.trod_bool Tryd.underlying4 g2
        injection e0 with e0; injection e2 with e2; injection q0 with q0; injection q1 with q1; injection q2 with q2
        subst e0 e2 q0 q1 q2
        exact ⟨a0, d0, d1, d2, A, cap, l, rfl, hlc, hC, hw⟩
end
end Go.Proofs.YtgboplhcjhlabaaDoor.P
