/-
HostDoes over plain lists: what its functions come to, and that they answer true. No Go in it.
-/
import Derived.Test.YtphboakgkmjpbaaGreatDoorRows
import Derived.Test.YtphboakgkmjpbaaGreatDoorPx4
import Derived.ChangeSame
import Derived.ChangeVars
import Derived.JoinedOf
import Derived.RowKit
import Derived.RowKitTokens
import Derived.LaidLaws
import Derived.LaidHandle
import Derived.Stop.Joined
import Derived.Test.YtphboakgkmjpbaaGreatDoorJHostDoes1
import Derived.Deep.Slices
import Derived.WideShapes
import Derived.ChangeSlices
import Derived.Test.YtphboakgkmjpbaaGreatDoorPx16
import Derived.Test.YtphboakgkmjpbaaGreatDoorPx17
import Derived.Test.YtphboakgkmjpbaaGreatDoorPx8
import Derived.Test.YtphboakgkmjpbaaGreatDoorPx9
import Derived.Test.YtphboakgkmjpbaaGreatDoorPx16L
import Derived.Test.YtphboakgkmjpbaaGreatDoorPx18
import Derived.Test.YtphboakgkmjpbaaGreatDoorPx5
import Derived.Test.YtphboakgkmjpbaaGreatDoorPx6
import Derived.Test.YtphboakgkmjpbaaGreatDoorPx7
import Derived.Test.YtphboakgkmjpbaaGreatDoorPx10
import Derived.Test.YtphboakgkmjpbaaGreatDoorPx11
import Derived.Test.YtphboakgkmjpbaaGreatDoorPx13
import Derived.Test.YtphboakgkmjpbaaGreatDoorPx14
import Derived.Test.YtphboakgkmjpbaaGreatDoorPx12
import Derived.Test.YtphboakgkmjpbaaGreatDoorPx15
import Derived.Test.YtphboakgkmjpbaaGreatDoorPx19
import Derived.Test.YtphboakgkmjpbaaGreatDoorPx20
import Derived.Test.YtphboakgkmjpbaaGreatDoorPx21
import Derived.Test.YtphboakgkmjpbaaGreatDoorPx22
import Derived.Test.YtphboakgkmjpbaaGreatDoorPx23
import Derived.Test.YtphboakgkmjpbaaGreatDoorPx24
import Derived.Test.YtphboakgkmjpbaaGreatDoorPx25
import Derived.Test.YtphboakgkmjpbaaGreatDoorPx26
import Derived.Test.YtphboakgkmjpbaaGreatDoorPx27
import Derived.Test.YtphboakgkmjpbaaGreatDoorPx28
namespace Go.Proofs.YtphboakgkmjpbaaGreatDoor.P
open Go.ChangeShapes Go.WideShapes Go.RowKit
def laidL : List (String × DataW Unit) := [("errors.errorType", Rows.laid_errors_errorType)]
theorem L0.et : Tryz.prog.globalNamed "errors.errorType" = some 0 := by kernel_rfl
theorem L0.rt : (Tryz.prog.cutTypes.find? (·.1 == "internal/reflectlite.rtype")).map (·.2) = some 122 := by kernel_rfl
theorem L0.oneRow : ((List.range 175).filter fun t => Tryz.prog.rowNamed t [101, 114, 114, 111, 114]) = [34] := by kernel_rfl
theorem L0.size : Tryz.prog.types.size = 175 := by kernel_rfl
theorem laidG_of {W : World} (h : laidMetH Tryz.prog laidL W) : LaidG W := by
  have h' : laidMet Tryz.prog [] W ∧ handlesMet Tryz.prog laidL W := h
  obtain ⟨name, u, ty, e1, e2, e3, e4, e5⟩ := h'.2 _ (List.mem_singleton.2 rfl)
  have en : name = [101, 114, 114, 111, 114] := (Option.some.inj e1).symm
  subst en
  obtain rfl := Option.some.inj (L0.rt.symm.trans e2)
  have hm : ty ∈ (List.range 175).filter fun t => Tryz.prog.rowNamed t [101, 114, 114, 111, 114] := List.mem_filter.2 ⟨List.mem_range.2 (by rw [← L0.size]; exact e3), e4⟩
  rw [L0.oneRow] at hm
  obtain rfl := List.mem_singleton.1 hm
  have hh : typeHandle Tryz.prog 34 = .pointer (some ⟨1, 34, none⟩) := by kernel_rfl
  rw [hh] at e5
  unfold LaidG
  simpa using World.var?_cell L0.et e5 0
noncomputable def laidWorld (os : Os) : World :=
  let w0 := World.holding Tryz.prog os ⟨#[], #[], []⟩
  { w0 with heap := w0.heap.modify 0 fun
      | .cells _ t frozen => .cells #[.iface 122 (.agg #[.pointer (some ⟨1, 34, none⟩)])] t frozen
      | o => o }
theorem laidWorld_met (os : Os) (args : Array Value) : laidMetH Tryz.prog laidL ((laidWorld os).forCall (fun _ _ => 0) ⟨#[], args, []⟩).memory :=
  laidMetH_of_parts (laidMet_nil _ _) (by kernel_rfl)
end Go.Proofs.YtphboakgkmjpbaaGreatDoor.P
namespace Go.Proofs.YtphboakgkmjpbaaGreatDoor.P
open Go.RowKit Go.ChangeShapes Go.WideShapes Go.Deep Go.Proofs.YtphboakgkmjpbaaGreatDoorW.PrintWords
set_option linter.unusedVariables false
set_option linter.unusedSimpArgs false
section
variable {H : Type} {enc : TypeId × Value → H} {w : World} {base : Nat} {spare : Nat → Bool} {held : Bool}

/-- A cell whose numbers are of their kinds. -/
def wfC (x : S47) : Prop := (Lit.int .i64 x.f1.f2).wf = true ∧ (Lit.int .u8 x.f2).wf = true

set_option maxRecDepth 100000 in
theorem cell_open {fuel : Nat} {cs : List Value} {x : DataW H × List MemPlace} (h : DataW.trod enc Tryz.prog w base spare held fuel 47 cs = some x) :
    ∃ c : S47, wfC c ∧ cs = [.bool c.f0, .bool c.f1.f0, .bool c.f1.f1, .int .i64 c.f1.f2, .bool c.f1.f3, .int .u8 c.f2] := by
  obtain ⟨xs, n, rfl, _, hl, hx, hf⟩ := DataW.trod_struct Tryz.underlying47 h
  have hs : Tryz.prog.cellsOf 47 = 6 := by kernel_rfl
  have hs1 : Tryz.prog.cellsOf 4 = 1 := by kernel_rfl
  have hs2 : Tryz.prog.cellsOf 45 = 4 := by kernel_rfl
  have hs3 : Tryz.prog.cellsOf 5 = 1 := by kernel_rfl
  have hs4 : Tryz.prog.cellsOf 3 = 1 := by kernel_rfl
  rw [hs] at hl
  match cs, hl, xs, hx with
  | [c0, c1, c2, c3, c4, c5], _, [y0, y1, y2], _ =>
    have h0 := hf 0 _ rfl
    have h1 := hf 1 _ rfl
    have h2 := hf 2 _ rfl
    simp only [hs1, hs2, hs3, List.drop, List.take, List.getElem?_cons_zero, List.getElem?_cons_succ] at h0 h1 h2
    obtain ⟨b0, e0, _⟩ := DataW.trod_bool Tryz.underlying4 h0
    obtain ⟨n2, e2, _, w2⟩ := DataW.trod_int Tryz.underlying5 h2
    obtain ⟨zs, m, rfl, _, hl', hx', hf'⟩ := DataW.trod_struct Tryz.underlying45 h1
    match zs, hx' with
    | [z0, z1, z2, z3], _ =>
      have g0 := hf' 0 _ rfl
      have g1 := hf' 1 _ rfl
      have g2 := hf' 2 _ rfl
      have g3 := hf' 3 _ rfl
      simp only [hs1, hs4, List.drop, List.take, List.getElem?_cons_zero, List.getElem?_cons_succ] at g0 g1 g2 g3
      obtain ⟨d0, q0, _⟩ := DataW.trod_bool Tryz.underlying4 g0
      obtain ⟨d1, q1, _⟩ := DataW.trod_bool Tryz.underlying4 g1
      obtain ⟨d2, q2, _, w3⟩ := DataW.trod_int Tryz.underlying3 g2
      obtain ⟨d3, q3, _⟩ := DataW.trod_bool Tryz.underlying4 g3
      refine ⟨⟨b0, ⟨d0, d1, d2, d3⟩, n2⟩, ⟨w3, w2⟩, ?_⟩
      injection e0 with e0; injection e2 with e2; injection q0 with q0; injection q1 with q1; injection q2 with q2; injection q3 with q3
      subst e0 e2 q0 q1 q2 q3
      rfl
theorem cells_open {fuel : Nat} {cs : List Value} {x : DataW H × List MemPlace} (h : DataW.trod enc Tryz.prog w base spare held fuel 22 cs = some x) :
    ∃ (A : Option Addr) (cap : Nat) (l : List S47), cs = [.slice A l.length cap] ∧ l.length ≤ cap ∧ (∀ c ∈ l, wfC c) ∧ Kd.C k47 w A l.length l := by
  have hs : Tryz.prog.cellsOf 47 = 6 := by kernel_rfl
  rcases open_slice Tryz.underlying22 h with ⟨rfl, _⟩ | ⟨a, len, cap, m, n, D, Pl, rfl, _, hlc, hcm, hm, _, hi⟩
  · exact ⟨none, 0, [], rfl, Nat.le_refl _, by simp, Kd.C_nil _ _⟩
  · have hlm : len ≤ m := by rw [hm]; split <;> omega
    have hex : ∀ i, i < len → ∃ c : S47, wfC c ∧ ∀ j u, [Value.bool c.f0, .bool c.f1.f0, .bool c.f1.f1, .int .i64 c.f1.f2, .bool c.f1.f3, .int .u8 c.f2][j]? = some u → w.cell? (a.add (i * 6 + j)) = some u := by
      intro i hlt
      obtain ⟨cs', hc, ht⟩ := hi i (by omega)
      rw [hs] at hc
      obtain ⟨c, hw, rfl⟩ := cell_open ht
      obtain ⟨_, _, hat⟩ := World.cells?_some hc
      refine ⟨c, hw, fun j u hu => ?_⟩
      have hj : j < 6 := by
        rcases Nat.lt_or_ge j 6 with h' | h'
        · exact h'
        · rw [List.getElem?_eq_none (by simpa using h')] at hu; cases hu
      rw [← Go.Deep.add_add, hat j hj]; exact hu
    have pick : ∀ k, k ≤ len → ∃ l : List S47, l.length = k ∧ (∀ c ∈ l, wfC c) ∧ ∀ i c, l[i]? = some c → ∀ j u, [Value.bool c.f0, .bool c.f1.f0, .bool c.f1.f1, .int .i64 c.f1.f2, .bool c.f1.f3, .int .u8 c.f2][j]? = some u → w.cell? (a.add (i * 6 + j)) = some u := by
      intro k
      induction k with
      | zero => exact fun _ => ⟨[], rfl, by simp, by simp⟩
      | succ k ih =>
        intro hk
        obtain ⟨l, rfl, hw, hl⟩ := ih (by omega)
        obtain ⟨c, hcw, hc⟩ := hex l.length (by omega)
        refine ⟨l ++ [c], by simp, fun x hx => ?_, fun i d hd => ?_⟩
        · rcases List.mem_append.1 hx with h' | h'
          · exact hw x h'
          · simp at h'; subst h'; exact hcw
        · rcases Nat.lt_trichotomy i l.length with h' | rfl | h'
          · rw [List.getElem?_append_left h'] at hd; exact hl i d hd
          · simp at hd; subst hd; exact hc
          · rw [List.getElem?_eq_none (by simp; omega)] at hd; cases hd
    obtain ⟨l, rfl, hw, hl⟩ := pick len (Nat.le_refl _)
    refine ⟨some a, cap, l, rfl, hlc, hw, rfl, by have : maxLen = 9223372036854775807 := rfl; omega, fun _ => ⟨a, rfl, fun j p hp => ⟨_, rfl, k47_mk w p, fun i u hu => hl j p hp i u hu⟩⟩⟩

set_option maxRecDepth 100000 in
/-- A screen that came in, laid open. -/
theorem screen_open {r : Reach} {b0 : Nat} {v : Value} {d : DataW H} {p : List MemPlace} (hv : Value.okWide Tryz.prog w r b0 24 v) (h : DataW.Trod enc Tryz.prog w base spare held 24 v d p) :
    ∃ (a0 a1 : Int) (A : Option Addr) (c : Nat) (l : List S47) (a3 : Int) (a4 a5 : Bool), v = .agg #[.int .i64 a0, .int .i64 a1, .slice A l.length c, .int .i64 a3, .bool a4, .bool a5] ∧ l.length ≤ c ∧ Kd.C k47 w A l.length l ∧ (∀ x ∈ l, wfC x) ∧ (Lit.int .i64 a0).wf = true ∧ (Lit.int .i64 a1).wf = true ∧ (Lit.int .i64 a3).wf = true := by
  obtain ⟨cs, rfl, hsz⟩ := okWide_struct Tryz.underlying24 hv
  have hs : Tryz.prog.cellsOf 24 = 6 := by kernel_rfl
  have hs1 : Tryz.prog.cellsOf 4 = 1 := by kernel_rfl
  have hs3 : Tryz.prog.cellsOf 22 = 1 := by kernel_rfl
  have hs4 : Tryz.prog.cellsOf 3 = 1 := by kernel_rfl
  obtain ⟨L⟩ := cs
  rw [hs] at hsz
  match L, hsz with
  | [c0, c1, c2, c3, c4, c5], _ =>
    obtain ⟨fuel, hf0⟩ := h
    obtain ⟨xs, n, rfl, _, _, hx, hf⟩ := DataW.trod_struct Tryz.underlying24 hf0
    match xs, hx with
    | [y0, y1, y2, y3, y4, y5], _ =>
      have h0 := hf 0 _ rfl
      have h1 := hf 1 _ rfl
      have h2 := hf 2 _ rfl
      have h3 := hf 3 _ rfl
      have h4 := hf 4 _ rfl
      have h5 := hf 5 _ rfl
      simp only [Value.cells, hs1, hs3, hs4, List.drop, List.take, List.getElem?_cons_zero, List.getElem?_cons_succ] at h0 h1 h2 h3 h4 h5
      obtain ⟨a0, e0, _, w0⟩ := DataW.trod_int Tryz.underlying3 h0
      obtain ⟨a1, e1, _, w1⟩ := DataW.trod_int Tryz.underlying3 h1
      obtain ⟨A, cap, l, e2, hlc, hw, hC⟩ := cells_open h2
      obtain ⟨a3, e3, _, w3⟩ := DataW.trod_int Tryz.underlying3 h3
      obtain ⟨a4, e4, _⟩ := DataW.trod_bool Tryz.underlying4 h4
      obtain ⟨a5, e5, _⟩ := DataW.trod_bool Tryz.underlying4 h5
      injection e0 with e0; injection e1 with e1; injection e2 with e2; injection e3 with e3; injection e4 with e4; injection e5 with e5
      subst e0 e1 e2 e3 e4 e5
      exact ⟨a0, a1, A, cap, l, a3, a4, a5, rfl, hlc, hC, hw, w0, w1, w3⟩
end

theorem wf_u8 {a : Int} (h : (Lit.int .u8 a).wf = true) : 0 ≤ a ∧ a ≤ 255 := by
  unfold Lit.wf at h
  rw [Bool.and_eq_true] at h
  exact ⟨of_decide_eq_true h.1, of_decide_eq_true h.2⟩
end Go.Proofs.YtphboakgkmjpbaaGreatDoor.P
namespace Go.Proofs.YtphboakgkmjpbaaGreatDoor.P
open Go.RowKit Go.ChangeShapes Go.WideShapes Go.Deep Go.Proofs.YtphboakgkmjpbaaGreatDoorW.PrintWords
set_option linter.unusedVariables false
set_option linter.unusedSimpArgs false
section
variable {H : Type} {enc : TypeId × Value → H} {w : World} {base : Nat} {spare : Nat → Bool} {held : Bool}
theorem bytes_open {fuel : Nat} {cs : List Value} {x : DataW H × List MemPlace} (h : DataW.trod enc Tryz.prog w base spare held fuel 37 cs = some x) :
    ∃ (A : Option Addr) (cap : Nat) (l : List Int), cs = [.slice A l.length cap] ∧ l.length ≤ cap ∧ (∀ c ∈ l, (Lit.int .u8 c).wf = true) ∧ Kd.C (Kd.int .u8) w A l.length l := by
  rcases open_ints Tryz.underlying37 Tryz.underlying5 (by kernel_rfl) h with ⟨rfl, _⟩ | ⟨a, len, cap, zs, rfl, _, hlc, hcm, hz, _, hcell, hw⟩
  · exact ⟨none, 0, [], rfl, Nat.le_refl _, by simp, Kd.C_nil _ _⟩
  · have hle : len ≤ zs.length := by rw [hz]; split <;> omega
    have hlen : (zs.take len).length = len := by simp [hle]
    refine ⟨some a, cap, zs.take len, by rw [hlen], by rw [hlen]; exact hlc, fun c hc => hw c (List.mem_of_mem_take hc), ?_⟩
    refine Kd.C_of_reads (d := (0 : Int)) ⟨rfl, by have : maxLen = 9223372036854775807 := rfl; omega, fun _ => ⟨a, rfl, fun j hj => ?_⟩⟩
    have hj' : j < len := by omega
    rw [hcell j (by omega)]
    simp [List.getD, List.getElem?_take, hj']
end
end Go.Proofs.YtphboakgkmjpbaaGreatDoor.P
namespace Go.Proofs.YtphboakgkmjpbaaGreatDoor.P
open Go.RowKit Go.ChangeShapes Go.WideShapes Go.Deep Go.Proofs.YtphboakgkmjpbaaGreatDoorW.PrintWords
set_option linter.unusedVariables false
set_option linter.unusedSimpArgs false
section
variable {H : Type} {enc : TypeId × Value → H} {w : World} {base : Nat} {spare : Nat → Bool} {held : Bool}
/-- An order whose bytes are bytes. -/
def wfO (o : S49) : Prop := (∀ x ∈ o.f1, (Lit.int .u8 x).wf = true) ∧ (Lit.int .u8 o.f4).wf = true
def ordC (o : S49) (A : Option Addr) (c : Nat) : List Value := [.int .i64 o.f0, .slice A o.f1.length c, .bool o.f2.f0, .bool o.f2.f1, .int .i64 o.f2.f2, .bool o.f2.f3, .int .i64 o.f3, .int .u8 o.f4]
set_option maxRecDepth 100000 in
theorem order_at {fuel : Nat} {cs : List Value} {x : DataW H × List MemPlace} (h : DataW.trod enc Tryz.prog w base spare held fuel 49 cs = some x) :
    ∃ (o : S49) (A : Option Addr) (c : Nat), wfO o ∧ o.f1.length ≤ c ∧ Kd.C (Kd.int .u8) w A o.f1.length o.f1 ∧ cs = ordC o A c := by
  obtain ⟨xs, n, rfl, _, hl, hx, hf⟩ := DataW.trod_struct Tryz.underlying49 h
  have hs : Tryz.prog.cellsOf 49 = 8 := by kernel_rfl
  have hs1 : Tryz.prog.cellsOf 4 = 1 := by kernel_rfl
  have hs2 : Tryz.prog.cellsOf 45 = 4 := by kernel_rfl
  have hs3 : Tryz.prog.cellsOf 5 = 1 := by kernel_rfl
  have hs4 : Tryz.prog.cellsOf 3 = 1 := by kernel_rfl
  have hs5 : Tryz.prog.cellsOf 37 = 1 := by kernel_rfl
  rw [hs] at hl
  match cs, hl, xs, hx with
  | [c0, c1, c2, c3, c4, c5, c6, c7], _, [y0, y1, y2, y3, y4], _ =>
    have h0 := hf 0 _ rfl
    have h1 := hf 1 _ rfl
    have h2 := hf 2 _ rfl
    have h3 := hf 3 _ rfl
    have h4 := hf 4 _ rfl
    simp only [hs1, hs2, hs3, hs4, hs5, List.drop, List.take, List.getElem?_cons_zero, List.getElem?_cons_succ] at h0 h1 h2 h3 h4
    obtain ⟨a0, e0, _, w0⟩ := DataW.trod_int Tryz.underlying3 h0
    obtain ⟨A, cap, l, e1, hlc, hw, hC⟩ := bytes_open h1
    obtain ⟨a6, e3, _, w3⟩ := DataW.trod_int Tryz.underlying3 h3
    obtain ⟨a7, e4, _, w4⟩ := DataW.trod_int Tryz.underlying5 h4
    obtain ⟨zs, m, rfl, _, hl', hx', hf'⟩ := DataW.trod_struct Tryz.underlying45 h2
    match zs, hx' with
    | [z0, z1, z2, z3], _ =>
      have g0 := hf' 0 _ rfl
      have g1 := hf' 1 _ rfl
      have g2 := hf' 2 _ rfl
      have g3 := hf' 3 _ rfl
      simp only [hs1, hs4, List.drop, List.take, List.getElem?_cons_zero, List.getElem?_cons_succ] at g0 g1 g2 g3
      obtain ⟨d0, q0, _⟩ := DataW.trod_bool Tryz.underlying4 g0
      obtain ⟨d1, q1, _⟩ := DataW.trod_bool Tryz.underlying4 g1
      obtain ⟨d2, q2, _, w2⟩ := DataW.trod_int Tryz.underlying3 g2
      obtain ⟨d3, q3, _⟩ := DataW.trod_bool Tryz.underlying4 g3
      injection e0 with e0; injection e1 with e1; injection e3 with e3; injection e4 with e4; injection q0 with q0; injection q1 with q1; injection q2 with q2; injection q3 with q3
      subst e0 e1 e3 e4 q0 q1 q2 q3
      exact ⟨⟨a0, l, ⟨d0, d1, d2, d3⟩, a6, a7⟩, A, cap, ⟨hw, w4⟩, hlc, hC, rfl⟩
set_option maxRecDepth 100000 in
theorem orders_at {fuel : Nat} {cs : List Value} {x : DataW H × List MemPlace} (h : DataW.trod enc Tryz.prog w base spare held fuel 27 cs = some x) :
    ∃ (A : Option Addr) (cap : Nat) (l : List S49), cs = [.slice A l.length cap] ∧ l.length ≤ cap ∧ (∀ o ∈ l, wfO o) ∧ Kd.C k49 w A l.length l := by
  have hs : Tryz.prog.cellsOf 49 = 8 := by kernel_rfl
  rcases open_slice Tryz.underlying27 h with ⟨rfl, _⟩ | ⟨a, len, cap, m, n, D, Pl, rfl, _, hlc, hcm, hm, _, hi⟩
  · exact ⟨none, 0, [], rfl, Nat.le_refl _, by simp, Kd.C_nil _ _⟩
  · have hlm : len ≤ m := by rw [hm]; split <;> omega
    have hex : ∀ i, i < len → ∃ (o : S49) (A : Option Addr) (c : Nat), wfO o ∧ o.f1.length ≤ c ∧ Kd.C (Kd.int .u8) w A o.f1.length o.f1 ∧ ∀ j u, (ordC o A c)[j]? = some u → w.cell? (a.add (i * 8 + j)) = some u := by
      intro i hlt
      obtain ⟨cs', hc, ht⟩ := hi i (by omega)
      rw [hs] at hc
      obtain ⟨o, A, c, hw, h1, h2, rfl⟩ := order_at ht
      obtain ⟨_, _, hat⟩ := World.cells?_some hc
      refine ⟨o, A, c, hw, h1, h2, fun j u hu => ?_⟩
      have hj : j < 8 := by
        rcases Nat.lt_or_ge j 8 with h' | h'
        · exact h'
        · rw [List.getElem?_eq_none (by simpa [ordC] using h')] at hu; cases hu
      rw [← Go.Deep.add_add, hat j hj]; exact hu
    have pick : ∀ k, k ≤ len → ∃ l : List S49, l.length = k ∧ (∀ o ∈ l, wfO o) ∧ ∀ i o, l[i]? = some o → ∃ (A : Option Addr) (c : Nat), o.f1.length ≤ c ∧ Kd.C (Kd.int .u8) w A o.f1.length o.f1 ∧ ∀ j u, (ordC o A c)[j]? = some u → w.cell? (a.add (i * 8 + j)) = some u := by
      intro k
      induction k with
      | zero => exact fun _ => ⟨[], rfl, by simp, by simp⟩
      | succ k ih =>
        intro hk
        obtain ⟨l, rfl, hw, hl⟩ := ih (by omega)
        obtain ⟨o, A, c, hcw, hc1, hc2, hc⟩ := hex l.length (by omega)
        refine ⟨l ++ [o], by simp, fun x hx => ?_, fun i d hd => ?_⟩
        · rcases List.mem_append.1 hx with h' | h'
          · exact hw x h'
          · simp at h'; subst h'; exact hcw
        · rcases Nat.lt_trichotomy i l.length with h' | rfl | h'
          · rw [List.getElem?_append_left h'] at hd; exact hl i d hd
          · simp at hd; subst hd; exact ⟨A, c, hc1, hc2, hc⟩
          · rw [List.getElem?_eq_none (by simp; omega)] at hd; cases hd
    obtain ⟨l, rfl, hw, hl⟩ := pick len (Nat.le_refl _)
    refine ⟨some a, cap, l, rfl, hlc, hw, rfl, by have : maxLen = 9223372036854775807 := rfl; omega, fun _ => ⟨a, rfl, fun j p hp => ?_⟩⟩
    obtain ⟨A, c, h1, h2, h3⟩ := hl j p hp
    exact ⟨_, rfl, k49_mk w p h1 h2, fun i u hu => h3 i u hu⟩
set_option maxRecDepth 100000 in
/-- A command that came in. -/
theorem out_open {r : Reach} {b0 : Nat} {v : Value} {d : DataW H} {p : List MemPlace} (hv : Value.okWide Tryz.prog w r b0 29 v) (h : DataW.Trod enc Tryz.prog w base spare held 29 v d p) :
    ∃ (a0 : Int) (b1 b2 b3 : Bool) (A : Option Addr) (cap : Nat) (l : List S49), v = .agg #[.int .i64 a0, .bool b1, .bool b2, .bool b3, .slice A l.length cap] ∧ l.length ≤ cap ∧ Kd.C k49 w A l.length l ∧ ∀ o ∈ l, wfO o := by
  obtain ⟨cs, rfl, hsz⟩ := okWide_struct Tryz.underlying29 hv
  have hs : Tryz.prog.cellsOf 29 = 5 := by kernel_rfl
  have hs1 : Tryz.prog.cellsOf 4 = 1 := by kernel_rfl
  have hs2 : Tryz.prog.cellsOf 26 = 3 := by kernel_rfl
  have hs4 : Tryz.prog.cellsOf 3 = 1 := by kernel_rfl
  have hs5 : Tryz.prog.cellsOf 27 = 1 := by kernel_rfl
  obtain ⟨L⟩ := cs
  rw [hs] at hsz
  match L, hsz with
  | [c0, c1, c2, c3, c4], _ =>
    obtain ⟨fuel, hf0⟩ := h
    obtain ⟨xs, n, rfl, _, _, hx, hf⟩ := DataW.trod_struct Tryz.underlying29 hf0
    match xs, hx with
    | [y0, y1, y2], _ =>
      have h0 := hf 0 _ rfl
      have h1 := hf 1 _ rfl
      have h2 := hf 2 _ rfl
      simp only [Value.cells, hs1, hs2, hs4, hs5, List.drop, List.take, List.getElem?_cons_zero, List.getElem?_cons_succ] at h0 h1 h2
      obtain ⟨a0, e0, _, w0⟩ := DataW.trod_int Tryz.underlying3 h0
      obtain ⟨A, cap, l, e2, hlc, hw, hC⟩ := orders_at h2
      obtain ⟨zs, m, rfl, _, hl', hx', hf'⟩ := DataW.trod_struct Tryz.underlying26 h1
      match zs, hx' with
      | [z0, z1, z2], _ =>
        have g0 := hf' 0 _ rfl
        have g1 := hf' 1 _ rfl
        have g2 := hf' 2 _ rfl
        simp only [hs1, List.drop, List.take, List.getElem?_cons_zero, List.getElem?_cons_succ] at g0 g1 g2
        obtain ⟨d0, q0, _⟩ := DataW.trod_bool Tryz.underlying4 g0
        obtain ⟨d1, q1, _⟩ := DataW.trod_bool Tryz.underlying4 g1
        obtain ⟨d2, q2, _⟩ := DataW.trod_bool Tryz.underlying4 g2
        injection e0 with e0; injection e2 with e2; injection q0 with q0; injection q1 with q1; injection q2 with q2
        subst e0 e2 q0 q1 q2
        exact ⟨a0, d0, d1, d2, A, cap, l, rfl, hlc, hC, hw⟩
end
end Go.Proofs.YtphboakgkmjpbaaGreatDoor.P
namespace Go.Proofs.YtphboakgkmjpbaaGreatDoor.P
open Go.RowKit Go.Proofs.YtphboakgkmjpbaaGreatDoorW.PrintWords Go.Proofs.YtphboakgkmjpbaaGreatDoorW.PrintLast
set_option linter.unusedVariables false
set_option linter.unusedSimpArgs false

theorem w64 {x : Int} (h : -9223372036854775808 ≤ x ∧ x ≤ 9223372036854775807) : wrap64 x = x := by unfold wrap64; omega

theorem isF_rd (l : List S47) (i : Int) : (rd_T47 l i).f0 = isF l i := rfl
theorem fBegin_eq (r c : Int) (l : List S47) (cu : Int) (lo ins : Bool) (a : Int) (hn : l.length ≤ 16383) (h0 : 0 ≤ a) (h1 : a < l.length) : field_Begin.f r c l cu lo ins a = some (beginI l a) := by
  unfold field_Begin.f; rw [if_pos hn, if_pos h0, if_pos h1]

theorem findW_congr (p : Int → Bool) (g g' : Nat → Int) (h : ∀ j, g j = g' j) : ∀ c s, findW p g c s = findW p g' c s := by
  have : g = g' := funext h
  subst this; intros; rfl
theorem fNext_eq (r c : Int) (l : List S47) (cu : Int) (lo ins : Bool) (a : Int) (hn : l.length ≤ 16383) (h0 : 0 ≤ a) (h1 : a < l.length) : field_Next.f r c l cu lo ins a = some (nextI l a) := by
  unfold field_Next.f; rw [if_pos hn, if_pos h0, if_pos h1]
theorem rd_nat (l : List S47) (i : Nat) (h : i < l.length) : rd_T47 l (i : Int) = l[i] := rd_getElem l i h
/-- a cell's field's attribute -/
def ofI (l : List S47) (a : Int) : S45 := if beginI l a < 0 then ⟨false, false, 0, false⟩ else (rd_T47 l (beginI l a)).f1
/-- a cell is open -/
def openI (l : List S47) (a : Int) : Bool := !isF l a && !(ofI l a).f0
theorem fOf_eq (r c : Int) (l : List S47) (cu : Int) (lo ins : Bool) (a : Int) (hn : l.length ≤ 16383) (h0 : 0 ≤ a) (h1 : a < l.length) : field_Of.f r c l cu lo ins a = some ((ofI l a).f0, (ofI l a).f1, (ofI l a).f2, (ofI l a).f3) := by
  unfold field_Of.f ofI
  rw [fBegin_eq r c l cu lo ins a hn h0 h1, Option.bind_some]
  rcases begin_range l a (by omega) with hb | ⟨hb0, hb1, _⟩
  · rw [hb, if_pos (by decide), if_pos (by decide)]
  · have hlt : ¬ beginI l a < 0 := by omega
    rw [if_neg hlt, if_pos hb0, if_pos hb1, if_neg hlt]
theorem fOpen_eq (r c : Int) (l : List S47) (cu : Int) (lo ins : Bool) (a : Int) (hn : l.length ≤ 16383) (h0 : 0 ≤ a) (h1 : a < l.length) : field_Open.f r c l cu lo ins a = some (openI l a) := by
  unfold field_Open.f openI
  rw [if_pos h0, if_pos h1, fOf_eq r c l cu lo ins a hn h0 h1, isF_rd]
  cases isF l a <;> simp
/-- a cell is right -/
def okC (x : S47) : Bool := if x.f0 = true then (x.f2 == 0 && (decide (0 ≤ x.f1.f2) && decide (x.f1.f2 ≤ 3))) else ((!x.f1.f0 && (!x.f1.f1 && (x.f1.f2 == 0 && (!x.f1.f3)))) && (x.f2 == 0 || (x.f2 == 28 || (x.f2 == 30 || (decide (64 ≤ x.f2) && decide (x.f2 ≤ 254))))))
theorem rCell_eq (x : S47) : shutterref10_Cell.f x.f0 x.f1.f0 x.f1.f1 x.f1.f2 x.f1.f3 x.f2 = some (okC x) := by
  unfold shutterref10_Cell.f okC
  by_cases h : x.f0 = true
  · rw [if_pos h, if_pos h]
    by_cases h2 : x.f2 = 0
    · rw [if_pos h2]
      by_cases h3 : x.f1.f2 ≥ 0
      · rw [if_pos h3]; simp [h2]; intro _; omega
      · rw [if_neg h3]; simp [h2]; intro _; omega
    · rw [if_neg h2]; simp [h2]
  · rw [if_neg h, if_neg h]
    cases hA : (!x.f1.f0 && (!x.f1.f1 && (x.f1.f2 == 0 && (!x.f1.f3))))
    · simp
    · simp only [if_true, Bool.true_and]
      unfold shutterref05_Char.f
      by_cases e0 : x.f2 = 0
      · simp [e0]
      · by_cases e1 : x.f2 = 28
        · simp [e1]
        · by_cases e2 : x.f2 = 30
          · simp [e2]
          · by_cases e3 : x.f2 ≥ 64
            · rw [if_neg e0, if_neg e1, if_neg e2, if_pos e3, beq_eq_false_iff_ne.2 e0, beq_eq_false_iff_ne.2 e1, beq_eq_false_iff_ne.2 e2, decide_eq_true (show 64 ≤ x.f2 from e3)]; rfl
            · rw [if_neg e0, if_neg e1, if_neg e2, if_neg e3, beq_eq_false_iff_ne.2 e0, beq_eq_false_iff_ne.2 e1, beq_eq_false_iff_ne.2 e2, decide_eq_false (show ¬ 64 ≤ x.f2 from e3)]; rfl

/-- a screen is right -/
structure RightI (r c : Int) (l : List S47) (cu : Int) : Prop where
  r1 : 1 ≤ r
  c1 : 1 ≤ c
  r2 : r ≤ 16383
  c2 : c ≤ 16383
  rc : r * c ≤ 16383
  len : (l.length : Int) = r * c
  cu0 : 0 ≤ cu
  cu1 : cu < l.length
  ok : ∀ x ∈ l, okC x = true

theorem rRight_loop (r c : Int) (l : List S47) (cu : Int) (lo ins : Bool) (hn : l.length ≤ 16383) : ∀ (d k i : Nat), d + i = l.length → d < k → shutterref10_Right.l0 k i r c l cu lo ins = some ((l.drop i).all okC)
  | 0, k, i, hd, hk => by
    obtain ⟨k, rfl⟩ : ∃ m, k = m + 1 := ⟨k - 1, by omega⟩
    rw [shutterref10_Right.l0, if_neg (by omega), List.drop_eq_nil_of_le (by omega)]; rfl
  | d + 1, k, i, hd, hk => by
    obtain ⟨k, rfl⟩ : ∃ m, k = m + 1 := ⟨k - 1, by omega⟩
    rw [shutterref10_Right.l0, if_pos (by omega), if_pos (by omega), rd_nat l i (by omega), rCell_eq, Option.bind_some, List.drop_eq_getElem_cons (by omega : i < l.length), List.all_cons]
    cases h : okC l[i]
    · simp
    · simp only [if_true, Bool.true_and]
      rw [w64 (by omega)]
      exact rRight_loop r c l cu lo ins hn d k (i + 1) (by omega) (by omega)
theorem prod_bd {r c : Int} (h1 : 1 ≤ r) (h2 : r ≤ 16383) (h3 : 1 ≤ c) (h4 : c ≤ 16383) : 1 ≤ r * c ∧ r * c ≤ 268402689 := by
  constructor
  · have := Int.mul_le_mul h1 h3 (by omega) (by omega); omega
  · have := Int.mul_le_mul h2 h4 (by omega) (by omega); omega
theorem rRight_eq (k : Nat) (r c : Int) (l : List S47) (cu : Int) (lo ins : Bool) (hk : l.length + 1 < k) (hn : l.length ≤ 16383) : ∃ b, shutterref10_Right.f k r c l cu lo ins = some b ∧ (b = true ↔ RightI r c l cu) := by
  obtain ⟨k, rfl⟩ : ∃ m, k = m + 1 := ⟨k - 1, by omega⟩
  unfold shutterref10_Right.f shutterref10_Sized.f
  have no : (¬ RightI r c l cu) → ∃ b, some false = some b ∧ (b = true ↔ RightI r c l cu) := fun h => ⟨false, rfl, by simp [h]⟩
  have jt : shutterref10_Right.j0 (k + 1) true r c l cu lo ins = some false := by rw [shutterref10_Right.j0, if_pos rfl]
  by_cases h1 : r ≥ 1
  · rw [if_pos h1]
    by_cases h2 : c ≥ 1
    · rw [if_pos h2]
      by_cases h3 : r ≤ 16383
      · rw [if_pos h3]
        by_cases h4 : c ≤ 16383
        · have hb := prod_bd h1 h3 h2 h4
          rw [if_pos h4, Option.bind_some, w64 (by omega)]
          by_cases h5 : r * c ≤ 16383
          · rw [if_pos (decide_eq_true h5)]
            by_cases h6 : (l.length : Int) = r * c
            · rw [if_pos h6]
              by_cases h7 : cu < 0
              · rw [if_pos h7, jt]; exact no (fun h => by have := h.cu0; omega)
              · rw [if_neg h7, shutterref10_Right.j0]
                by_cases h8 : cu ≥ l.length
                · rw [if_pos (decide_eq_true h8)]; exact no (fun h => by have := h.cu1; omega)
                · rw [if_neg (by simp; omega)]
                  have := rRight_loop r c l cu lo ins hn l.length k 0 rfl (by omega)
                  rw [show ((0 : Nat) : Int) = 0 from rfl] at this
                  rw [this, List.drop_zero]
                  refine ⟨_, rfl, ?_⟩
                  rw [List.all_eq_true]
                  exact ⟨fun h => ⟨h1, h2, h3, h4, h5, h6, by omega, by omega, h⟩, fun h => h.ok⟩
            · rw [if_neg h6, jt]; exact no (fun h => h6 h.len)
          · rw [if_neg (by simp; omega), jt]; exact no (fun h => h5 h.rc)
        · rw [if_neg h4, Option.bind_some, if_neg (by decide), jt]; exact no (fun h => h4 h.c2)
      · rw [if_neg h3, Option.bind_some, if_neg (by decide), jt]; exact no (fun h => h3 h.r2)
    · rw [if_neg h2, Option.bind_some, if_neg (by decide), jt]; exact no (fun h => h2 h.c1)
  · rw [if_neg h1, Option.bind_some, if_neg (by decide), jt]; exact no (fun h => h1 h.r1)
theorem rFew_eq (k : Nat) (r c : Int) (l : List S47) (cu : Int) (lo ins : Bool) (hk : 202 < k) : ∃ b, shutterref10_Few.f k r c l cu lo ins = some b ∧ (b = true ↔ l.length ≤ 200 ∧ RightI r c l cu) := by
  unfold shutterref10_Few.f
  by_cases h : (l.length : Int) ≤ 200
  · obtain ⟨b, hb, hi⟩ := rRight_eq k r c l cu lo ins (by omega) (by omega)
    rw [if_pos h, hb, Option.bind_some]
    exact ⟨b, rfl, hi.trans ⟨fun x => ⟨by omega, x⟩, fun x => x.2⟩⟩
  · rw [if_neg h]; exact ⟨false, rfl, by simp; intro h'; omega⟩
end Go.Proofs.YtphboakgkmjpbaaGreatDoor.P
namespace Go.Proofs.YtphboakgkmjpbaaGreatDoor.P
open Go.RowKit Go.Proofs.YtphboakgkmjpbaaGreatDoorW.PrintWords Go.Proofs.YtphboakgkmjpbaaGreatDoorW.PrintLast
set_option linter.unusedVariables false
set_option linter.unusedSimpArgs false
theorem awake13_30 : shutterlaw13_awake.f 30 = some true := by decide +kernel
theorem awake13_eq (k : Nat) (hk : 30 ≤ k) : shutterlaw13_awake.f k = some true := by
  obtain ⟨d, rfl⟩ : ∃ d, k = 30 + d := ⟨k - 30, by omega⟩
  clear hk
  induction d with
  | zero => exact awake13_30
  | succ d ih => exact shutterlaw13_awake.mono _ _ ih
end Go.Proofs.YtphboakgkmjpbaaGreatDoor.P
namespace Go.Proofs.YtphboakgkmjpbaaGreatDoor.P
open Go.RowKit Go.Proofs.YtphboakgkmjpbaaGreatDoorW.PrintWords Go.Proofs.YtphboakgkmjpbaaGreatDoorW.PrintLast
set_option linter.unusedVariables false
set_option linter.unusedSimpArgs false
theorem open_isF {l : List S47} {a : Int} (h : openI l a = true) : isF l a = false := by
  unfold openI at h; cases hf : isF l a
  · rfl
  · rw [hf] at h; cases h
theorem pos_ {α : Type} {P : Prop} [Decidable P] {x y z : α} (h : P) (e : x = z) : (if P then x else y) = z := by rw [if_pos h]; exact e
theorem neg_ {α : Type} {P : Prop} [Decidable P] {x y z : α} (h : ¬ P) (e : y = z) : (if P then x else y) = z := by rw [if_neg h]; exact e
theorem rd_set (l : List S47) (x y : Int) (v : S47) (x0 : 0 ≤ x) (x1 : x < l.length) (y0 : 0 ≤ y) : rd_T47 (l.set (x : Int).toNat v) y = if x = y then v else rd_T47 l y := by
  obtain ⟨m, rfl⟩ := Int.eq_ofNat_of_zero_le x0
  obtain ⟨n, rfl⟩ := Int.eq_ofNat_of_zero_le y0
  simp only [rd_T47, Int.toNat_natCast, List.getD_eq_getElem?_getD, List.getElem?_set]
  by_cases h : m = n
  · subst h; rw [if_pos rfl, if_pos rfl, if_pos (by omega)]; rfl
  · rw [if_neg h, if_neg (by omega)]
theorem cells_ext {l l' : List S47} (hl : l.length = l'.length) (h : ∀ y : Int, 0 ≤ y → y < l.length → rd_T47 l y = rd_T47 l' y) : l = l' := by
  apply List.ext_getElem hl
  intro i h1 h2
  have := h (i : Int) (by omega) (by omega)
  rwa [rd_nat l i h1, rd_nat l' i h2] at this
theorem rd_mem_cells (l : List S47) (x : Int) (x0 : 0 ≤ x) (x1 : x < l.length) : rd_T47 l x ∈ l := by
  obtain ⟨m, rfl⟩ := Int.eq_ofNat_of_zero_le x0
  rw [rd_nat l m (by omega)]; exact List.getElem_mem _
theorem mem_rd (l : List S47) (x : S47) (hx : x ∈ l) : ∃ y : Int, 0 ≤ y ∧ y < l.length ∧ rd_T47 l y = x := by
  obtain ⟨m, hm, e⟩ := List.getElem_of_mem hx
  exact ⟨m, by omega, by omega, by rw [rd_nat l m (by omega)]; exact e⟩
theorem findW_alike {p q : Int → Bool} {g : Nat → Int} (h : ∀ j, p (g j) = q (g j)) : ∀ c s, findW p g c s = findW q g c s
  | 0, s => rfl
  | c + 1, s => by unfold findW; rw [h s, findW_alike h c]
/-- the fields of both begin at the same cells, and are open and numeric alike -/
structure SameF (l l' : List S47) : Prop where
  len : l'.length = l.length
  f : ∀ y : Int, 0 ≤ y → isF l' y = isF l y
  a0 : ∀ y : Int, 0 ≤ y → isF l y = true → (rd_T47 l' y).f1.f0 = (rd_T47 l y).f1.f0
  a1 : ∀ y : Int, 0 ≤ y → isF l y = true → (rd_T47 l' y).f1.f1 = (rd_T47 l y).f1.f1
theorem SameF.begin {l l' : List S47} (h : SameF l l') (hp : 0 < l.length) (x : Int) : beginI l' x = beginI l x := by
  unfold beginI
  rw [h.len]
  exact findW_alike (fun j => h.f _ (Int.emod_nonneg _ (by omega))) _ _
theorem SameF.of0 {l l' : List S47} (h : SameF l l') (hp : 0 < l.length) (x : Int) : (ofI l' x).f0 = (ofI l x).f0 := by
  unfold ofI
  rw [h.begin hp]
  rcases begin_range l x hp with hb | ⟨b0, b1, hF⟩
  · rw [hb, if_pos (by decide), if_pos (by decide)]
  · rw [if_neg (by omega), if_neg (by omega)]; exact h.a0 _ b0 hF
theorem SameF.open {l l' : List S47} (h : SameF l l') (hp : 0 < l.length) (x : Int) (x0 : 0 ≤ x) : openI l' x = openI l x := by
  unfold openI; rw [h.f x x0, h.of0 hp]
theorem SameF.trans {l l' l'' : List S47} (h : SameF l l') (h' : SameF l' l'') : SameF l l'' :=
  ⟨h'.len.trans h.len, fun y y0 => (h'.f y y0).trans (h.f y y0), fun y y0 e => (h'.a0 y y0 ((h.f y y0).trans e)).trans (h.a0 y y0 e), fun y y0 e => (h'.a1 y y0 ((h.f y y0).trans e)).trans (h.a1 y y0 e)⟩
def newC (a : Int) : S47 := ⟨false, ⟨false, false, 0, false⟩, a⟩
/-- a cell of a right screen that begins no field bears a character alone -/
theorem plain_cell {l : List S47} (ok : ∀ x ∈ l, okC x = true) (x : Int) (x0 : 0 ≤ x) (x1 : x < l.length) (h : isF l x = false) : rd_T47 l x = newC (rd_T47 l x).f2 := by
  have := ok _ (rd_mem_cells l x x0 x1)
  unfold isF at h
  revert this h
  generalize rd_T47 l x = z
  obtain ⟨z0, ⟨z1, z2, z3, z4⟩, z5⟩ := z
  intro h this
  change z0 = false at h
  subst h
  unfold okC at this
  simp only [Bool.false_eq_true, if_false, Bool.and_eq_true, Bool.not_eq_true', beq_iff_eq] at this
  obtain ⟨⟨e1, e2, e3, e4⟩, _⟩ := this
  subst e1 e2 e3 e4
  rfl
end Go.Proofs.YtphboakgkmjpbaaGreatDoor.P
namespace Go.Proofs.YtphboakgkmjpbaaGreatDoor.P
open Go.RowKit Go.Proofs.YtphboakgkmjpbaaGreatDoorW.PrintWords Go.Proofs.YtphboakgkmjpbaaGreatDoorW.PrintLast
set_option linter.unusedVariables false
set_option linter.unusedSimpArgs false

end Go.Proofs.YtphboakgkmjpbaaGreatDoor.P
namespace Go.Proofs.YtphboakgkmjpbaaGreatDoor.P
open Go.RowKit Go.Proofs.YtphboakgkmjpbaaGreatDoorW.PrintWords Go.Proofs.YtphboakgkmjpbaaGreatDoorW.PrintLast
set_option linter.unusedVariables false
set_option linter.unusedSimpArgs false
def chI (x : Int) : Bool := x == 0 || (x == 28 || (x == 30 || (decide (64 ≤ x) && decide (x ≤ 254))))
theorem rChar_eq (x : Int) : shutterref05_Char.f x = some (chI x) := by
  unfold shutterref05_Char.f chI
  by_cases e0 : x = 0
  · simp [e0]
  · by_cases e1 : x = 28
    · simp [e1]
    · by_cases e2 : x = 30
      · simp [e2]
      · by_cases e3 : x ≥ 64
        · rw [if_neg e0, if_neg e1, if_neg e2, if_pos e3, beq_eq_false_iff_ne.2 e0, beq_eq_false_iff_ne.2 e1, beq_eq_false_iff_ne.2 e2, decide_eq_true (show 64 ≤ x from e3)]; rfl
        · rw [if_neg e0, if_neg e1, if_neg e2, if_neg e3, beq_eq_false_iff_ne.2 e0, beq_eq_false_iff_ne.2 e1, beq_eq_false_iff_ne.2 e2, decide_eq_false (show ¬ 64 ≤ x from e3)]; rfl
theorem odd_ch (x : Int) (h : x ≤ 255) : oddB x = !chI x := by
  have h1 := attr_Char_odd x
  have h2 : attr_Char.f x = some (chI x) := by
    rw [← rChar_eq]
    unfold attr_Char.f shutterref05_Char.f
    by_cases e3 : x ≥ 64
    · rw [if_pos e3, if_pos e3]
      by_cases e : x = 255
      · subst e; rfl
      · rw [decide_eq_true (show x ≤ 254 by omega), bne_iff_ne.2 e]
    · rw [if_neg e3, if_neg e3]
  rw [h2] at h1
  injection h1 with h1
  rw [h1, Bool.not_not]
theorem any_odd : ∀ (tx : List Int), (∀ x ∈ tx, x ≤ 255) → tx.any oddB = !tx.all chI
  | [], _ => rfl
  | x :: t, h => by
    rw [List.any_cons, List.all_cons, odd_ch x (h x (by simp)), any_odd t (fun y hy => h y (by simp [hy])), Bool.not_and]
theorem rd_natI (L : List Int) (k : Nat) (hk : k < L.length) : rd L (k : Int) = L[k] := by unfold rd; simp [hk]
theorem rChars_loop (tx : List Int) (hn : tx.length ≤ 100000) : ∀ (d K i : Nat), d + i = tx.length → d < K → shutterref05_Chars.l0 K tx i = some ((tx.drop i).all chI)
  | 0, K, i, hd, hk => by
    obtain ⟨K, rfl⟩ : ∃ m, K = m + 1 := ⟨K - 1, by omega⟩
    rw [shutterref05_Chars.l0, if_neg (by omega), List.drop_eq_nil_of_le (by omega)]; rfl
  | d + 1, K, i, hd, hk => by
    obtain ⟨K, rfl⟩ : ∃ m, K = m + 1 := ⟨K - 1, by omega⟩
    rw [shutterref05_Chars.l0, if_pos (by omega), if_pos (by omega), rd_natI tx i (by omega), rChar_eq, Option.bind_some, List.drop_eq_getElem_cons (by omega : i < tx.length), List.all_cons]
    cases h : chI tx[i]
    · simp
    · simp only [if_true, Bool.true_and]
      rw [w64 (by omega)]
      exact rChars_loop tx hn d K (i + 1) (by omega) (by omega)
theorem rChars_eq (K : Nat) (tx : List Int) (hn : tx.length ≤ 100000) (hk : tx.length < K) : shutterref05_Chars.f K tx = some (tx.all chI) := by
  unfold shutterref05_Chars.f
  have := rChars_loop tx hn tx.length K 0 rfl hk
  rwa [List.drop_zero] at this
theorem put_fine8 : ∀ b c d : Bool, (((attr_Put.f 8 b c 0 d).map fun r => r.2.1.isNone && r.2.2.isEmpty) = some true ∧ ((attr_Put.f 8 b c 1 d).map fun r => r.2.1.isNone && r.2.2.isEmpty) = some true) ∧ ((attr_Put.f 8 b c 2 d).map fun r => r.2.1.isNone && r.2.2.isEmpty) = some true ∧ ((attr_Put.f 8 b c 3 d).map fun r => r.2.1.isNone && r.2.2.isEmpty) = some true := by decide +kernel
theorem fine_of {α β γ : Type} {o : Option (α × Option β × List γ)} (h : (o.map fun r => r.2.1.isNone && r.2.2.isEmpty) = some true) : ∃ x, o = some (x, none, []) := by
  match o, h with
  | some (x, none, []), _ => exact ⟨x, rfl⟩
  | some (x, some y, z), h => cases h
  | some (x, none, y :: z), h => cases h
theorem put_fine (K : Nat) (hk : 8 ≤ K) (b c d : Bool) (a : Int) (h0 : 0 ≤ a) (h1 : a ≤ 3) : ∃ x, attr_Put.f K b c a d = some (x, none, []) := by
  obtain ⟨j, rfl⟩ : ∃ j, K = 8 + j := ⟨K - 8, by omega⟩
  clear hk
  induction j with
  | zero =>
    have h := put_fine8 b c d
    have : a = 0 ∨ a = 1 ∨ a = 2 ∨ a = 3 := by omega
    rcases this with rfl | rfl | rfl | rfl
    · exact fine_of h.1.1
    · exact fine_of h.1.2
    · exact fine_of h.2.1
    · exact fine_of h.2.2
  | succ j ih => obtain ⟨x, hx⟩ := ih; exact ⟨x, attr_Put.mono _ _ _ _ _ _ hx⟩
theorem put_bad (K : Nat) (hk : 1 ≤ K) (b c d : Bool) (a : Int) (h : a < 0 ∨ 3 < a) : attr_Put.f K b c a d = some (0, some (Er.num 1), []) := by
  obtain ⟨K, rfl⟩ : ∃ m, K = m + 1 := ⟨K - 1, by omega⟩
  unfold attr_Put.f
  by_cases h0 : a < 0
  · rw [if_pos h0, attr_Put.j0, if_pos rfl]
  · rw [if_neg h0, attr_Put.j0, if_pos (decide_eq_true (by omega))]
theorem put_eq (K : Nat) (hk : 8 ≤ K) (b c d : Bool) (a : Int) : ∃ x y, attr_Put.f K b c a d = some (x, y, []) ∧ (y.isNone = true ↔ 0 ≤ a ∧ a ≤ 3) := by
  by_cases h : 0 ≤ a ∧ a ≤ 3
  · obtain ⟨x, hx⟩ := put_fine K hk b c d a h.1 h.2
    exact ⟨x, none, hx, by simp [h]⟩
  · exact ⟨0, some (Er.num 1), put_bad K (by omega) b c d a (by omega), by simp; omega⟩
/-- what is wrong with an order; 0: nothing -/
def wrongI (k : Int) (tx : List Int) (ap an : Bool) (as_ : Int) (am : Bool) (ad ch size : Int) : Int :=
  if k < 1 ∨ 7 < k then 5
  else if ((k == 1) != decide (0 < tx.length)) = true ∨ tx.all chI = false then 1
  else if (if k = 2 then as_ < 0 ∨ 3 < as_ else (ap || (an || (!(as_ == 0) || am))) = true) then 1
  else if (if k = 6 then chI ch = false else ch ≠ 0) then 1
  else if k = 3 ∨ k = 6 ∨ k = 7 then (if ad < 0 ∨ size ≤ ad then 4 else 0) else (if ad = 0 then 0 else 1)
def errN (n : Int) : Option Er := if n = 0 then none else some (Er.num n)
theorem Right3 (K : Nat) (size : Int) (pl b : Bool) (k : Int) (tx : List Int) (ap an : Bool) (as_ : Int) (am : Bool) (ad ch : Int) : order_Right.j3 (K + 1) size pl b k tx ap an as_ am ad ch = some (errN (if b = true then 1 else if pl = true ∧ (ad < 0 ∨ size ≤ ad) then 4 else 0), []) := by
  rw [order_Right.j3]
  cases b
  · cases pl
    · rfl
    · by_cases h0 : ad < 0
      · simp [h0]; rfl
      · by_cases h1 : ad ≥ size
        · simp [h0, h1]; rfl
        · have : ¬ size ≤ ad := by omega
          simp [h0, h1, this]; rfl
  · rfl
theorem Right2 (K : Nat) (size : Int) (pl hc b : Bool) (k : Int) (tx : List Int) (ap an : Bool) (as_ : Int) (am : Bool) (ad ch : Int) (hch : ch ≤ 255) : order_Right.j2 (K + 2) size pl hc b k tx ap an as_ am ad ch = some (errN (if b = true then 1 else if (if hc = true then chI ch = false else ch ≠ 0) then 1 else if pl = true then (if ad < 0 ∨ size ≤ ad then 4 else 0) else if ad = 0 then 0 else 1), []) := by
  rw [order_Right.j2]
  cases b
  · simp only [Right3]
    cases hc
    · by_cases h : ch = 0
      · cases pl
        · by_cases ha : ad = 0 <;> simp [h, ha]
        · simp [h]
      · simp [h]
    · unfold order_Right_1.f
      rw [attr_Char_odd, odd_ch ch hch]
      cases chI ch
      · simp
      · cases pl
        · by_cases ha : ad = 0 <;> simp [ha]
        · simp
  · rfl
theorem Right1 (K : Nat) (size : Int) (st pl hc b : Bool) (k : Int) (tx : List Int) (ap an : Bool) (as_ : Int) (am : Bool) (ad ch : Int) (y : Option Er) (hch : ch ≤ 255) : order_Right.j1 (K + 3) size st pl hc b k tx ap an as_ am ad ch y [] = some (errN (if b = true then 1 else if (if st = true then y.isNone = false else (ap || (an || (!(as_ == 0) || am))) = true) then 1 else if (if hc = true then chI ch = false else ch ≠ 0) then 1 else if pl = true then (if ad < 0 ∨ size ≤ ad then 4 else 0) else if ad = 0 then 0 else 1), []) := by
  rw [order_Right.j1]
  cases b
  · simp only [Right2 _ _ _ _ _ _ _ _ _ _ _ _ _ hch]
    cases st
    · cases (ap || (an || (!(as_ == 0) || am))) <;> simp
    · cases y <;> simp
  · rfl
theorem has_at (k : Int) : order_has.f k = some (decide (k = 1), decide (k = 2), decide (k = 3 ∨ k = 6 ∨ k = 7), decide (k = 6)) := by
  unfold order_has.f
  by_cases h1 : k = 1
  · subst h1; rfl
  by_cases h2 : k = 2
  · subst h2; rfl
  by_cases h6 : k = 6
  · subst h6; rfl
  by_cases h3 : k = 3
  · subst h3; rfl
  by_cases h7 : k = 7
  · subst h7; rfl
  simp [h1, h2, h3, h6, h7]
theorem fRight_eq (K : Nat) (hk : 12 ≤ K) (k : Int) (tx : List Int) (ap an : Bool) (as_ : Int) (am : Bool) (ad ch size : Int) (htx : ∀ x ∈ tx, x ≤ 255) (hn : tx.length ≤ 16383) (hch : ch ≤ 255) : order_Right.f K k tx ap an as_ am ad ch size = some (errN (wrongI k tx ap an as_ am ad ch size), []) := by
  obtain ⟨K, rfl⟩ : ∃ m, K = m + 4 := ⟨K - 4, by omega⟩
  unfold order_Right.f
  by_cases h0 : k < 1
  · rw [if_pos h0, order_Right.j0, if_pos rfl, wrongI, if_pos (.inl h0)]; rfl
  rw [if_neg h0, order_Right.j0]
  by_cases h7 : k > 7
  · rw [if_pos (decide_eq_true h7), wrongI, if_pos (.inr h7)]; rfl
  rw [if_neg (by simp; omega), has_at, Option.bind_some]
  obtain ⟨x, y, hp, hy⟩ := put_eq (K + 3) (by omega) ap an am as_
  rw [hp, Option.bind_some, wrongI, if_neg (show ¬ (k < 1 ∨ 7 < k) by omega)]
  have ek : decide (k = 1) = (k == 1) := by by_cases h : k = 1 <;> simp [h]
  have et : decide ((tx.length : Int) > 0) = decide (0 < tx.length) := by by_cases h : 0 < tx.length <;> simp [h]
  have hy2 : (y.isNone = false) ↔ (as_ < 0 ∨ 3 < as_) := by
    cases hh : y.isNone
    · simp only [true_iff]
      have : ¬ (0 ≤ as_ ∧ as_ ≤ 3) := fun h => by have := hy.2 h; rw [hh] at this; cases this
      omega
    · have := hy.1 hh
      simp only [Bool.true_eq_false, false_iff]; omega
  show (if (decide (k = 1) != decide ((tx.length : Int) > 0)) = true then _ else _) = _
  rw [ek, et]
  by_cases hA : ((k == 1) != decide (0 < tx.length)) = true
  · rw [if_pos hA, Right1 _ _ _ _ _ _ _ _ _ _ _ _ _ _ _ hch, if_pos rfl, if_pos (.inl hA)]
  · rw [if_neg hA]
    unfold odd_has.f
    rw [if_pos hn, Option.bind_some, any_odd tx htx, Right1 _ _ _ _ _ _ _ _ _ _ _ _ _ _ _ hch]
    cases hB : tx.all chI
    · rw [if_pos (show (!false) = true from rfl), if_pos (.inr rfl)]
    · rw [if_neg (show ¬ (!true) = true by decide), if_neg (show ¬ (((k == 1) != decide (0 < tx.length)) = true ∨ true = false) by rintro (h | h); exact hA h; cases h)]
      simp only [hy2, decide_eq_true_eq]
theorem rWrong_eq (K : Nat) (k : Int) (tx : List Int) (ap an : Bool) (as_ : Int) (am : Bool) (ad ch size : Int) (hn : tx.length ≤ 16383) (hk : tx.length + 6 < K) : shutterref07_Wrong.f K k tx ap an as_ am ad ch size = some (wrongI k tx ap an as_ am ad ch size) := by
  obtain ⟨K, rfl⟩ : ∃ m, K = m + 6 := ⟨K - 6, by omega⟩
  have W4 : ∀ (K : Nat) (i : Bool), shutterref07_Wrong.j4 (K + 1) size i k tx ap an as_ am ad ch = some (if i = true then (if ad = 0 then 0 else 1) else if ad < 0 ∨ size ≤ ad then 4 else 0) := by
    intro K i
    rw [shutterref07_Wrong.j4]
    cases i
    · by_cases h0 : ad < 0
      · simp [h0]
      · by_cases h1 : ad ≥ size
        · simp [h0, h1]
        · have : ¬ size ≤ ad := by omega
          simp [h0, h1, this]
    · by_cases h : ad = 0 <;> simp [h]
  have W3 : ∀ (K : Nat) (i : Bool), shutterref07_Wrong.j3 (K + 2) size k i k tx ap an as_ am ad ch = some (if i = true then 1 else if k = 3 ∨ k = 6 ∨ k = 7 then (if ad < 0 ∨ size ≤ ad then 4 else 0) else (if ad = 0 then 0 else 1)) := by
    intro K i
    rw [shutterref07_Wrong.j3]
    cases i
    · simp only [W4]
      by_cases h3 : k = 3
      · simp [h3]
      by_cases h6 : k = 6
      · simp [h6]
      by_cases h7 : k = 7
      · simp [h7]
      · simp [h3, h6, h7]
    · rfl
  have W2 : ∀ (K : Nat) (i : Bool), shutterref07_Wrong.j2 (K + 3) size k i k tx ap an as_ am ad ch = some (if i = true then 1 else if (if k = 6 then chI ch = false else ch ≠ 0) then 1 else if k = 3 ∨ k = 6 ∨ k = 7 then (if ad < 0 ∨ size ≤ ad then 4 else 0) else (if ad = 0 then 0 else 1)) := by
    intro K i
    rw [shutterref07_Wrong.j2]
    cases i
    · simp only [W3, rChar_eq, Option.bind_some]
      by_cases h6 : k = 6
      · cases chI ch <;> simp [h6]
      · by_cases hc : ch = 0 <;> simp [h6, hc]
    · rfl
  have W1 : ∀ (K : Nat) (i : Bool), shutterref07_Wrong.j1 (K + 4) size k i k tx ap an as_ am ad ch = some (if i = true then 1 else if (if k = 2 then as_ < 0 ∨ 3 < as_ else (ap || (an || (!(as_ == 0) || am))) = true) then 1 else if (if k = 6 then chI ch = false else ch ≠ 0) then 1 else if k = 3 ∨ k = 6 ∨ k = 7 then (if ad < 0 ∨ size ≤ ad then 4 else 0) else (if ad = 0 then 0 else 1)) := by
    intro K i
    rw [shutterref07_Wrong.j1]
    cases i
    · simp only [W2]
      by_cases h2 : k = 2
      · by_cases h0 : as_ < 0
        · simp [h2, h0]
        · by_cases h3 : as_ > 3
          · simp [h2, h0, h3]
          · have : ¬ 3 < as_ := by omega
            simp [h2, h0, h3]
      · cases (ap || (an || (!(as_ == 0) || am))) <;> simp [h2]
    · rfl
  have W0 : ∀ i : Bool, shutterref07_Wrong.j0 (K + 6) size k i k tx ap an as_ am ad ch = some (if i = true then 5 else if ((k == 1) != decide (0 < tx.length)) = true ∨ tx.all chI = false then 1
  else if (if k = 2 then as_ < 0 ∨ 3 < as_ else (ap || (an || (!(as_ == 0) || am))) = true) then 1
  else if (if k = 6 then chI ch = false else ch ≠ 0) then 1
  else if k = 3 ∨ k = 6 ∨ k = 7 then (if ad < 0 ∨ size ≤ ad then 4 else 0) else (if ad = 0 then 0 else 1)) := by
    intro i
    rw [shutterref07_Wrong.j0]
    cases i
    · have et : decide ((tx.length : Int) > 0) = decide (0 < tx.length) := by by_cases h : 0 < tx.length <;> simp [h]
      rw [et, rChars_eq _ _ (by omega) (by omega), Option.bind_some]
      simp only [W1]
      cases ((k == 1) != decide (0 < tx.length)) <;> cases tx.all chI <;> simp
    · rfl
  unfold shutterref07_Wrong.f wrongI
  by_cases h0 : k < 1
  · simp [h0, W0]
  · by_cases h7 : k > 7
    · simp [h0, h7, W0]
    · have : ¬ 7 < k := by omega
      simp [h0, h7, W0]
end Go.Proofs.YtphboakgkmjpbaaGreatDoor.P
namespace Go.Proofs.YtphboakgkmjpbaaGreatDoor.P
open Go.RowKit Go.Proofs.YtphboakgkmjpbaaGreatDoorW.PrintWords Go.Proofs.YtphboakgkmjpbaaGreatDoorW.PrintLast
set_option linter.unusedVariables false
set_option linter.unusedSimpArgs false
theorem grid_On_eq (r c : Int) (l : List S47) (cu : Int) (lo ins : Bool) (a d : Int) (hn : l.length ≤ 16383) (h0 : 0 ≤ a) (h1 : a < l.length) : grid_On.f r c l cu lo ins a d = some (onI l.length a d) := grid_On.eq r c l cu lo ins a d hn h0 h1
def spanN (n : Nat) (a b : Int) : Nat := if b = a then n else ((b - a) % (n : Int)).toNat
def spanI (n : Nat) (a b : Int) : List Int := uptoI (fun j => onI n a j) (spanN n a b)
theorem on_step (n : Nat) (a : Int) (j : Nat) : onI n (onI n a j) 1 = onI n a ((j + 1 : Nat) : Int) := by
  unfold onI
  rw [Int.emod_add_emod]
  congr 1
  omega
theorem on_zero (n : Nat) (a : Int) (h0 : 0 ≤ a) (h1 : a < n) : onI n a ((0 : Nat) : Int) = a := by
  unfold onI; rw [show a + ((0 : Nat) : Int) = a by omega]; exact Int.emod_eq_of_lt h0 h1
theorem on_over (x : Int) (n : Nat) (h0 : (n : Int) ≤ x) (h1 : x < 2 * n) : x % (n : Int) = x - n := by
  have h : (x - n) % (n : Int) = x % (n : Int) := by rw [Int.sub_emod, Int.emod_self, Int.sub_zero, Int.emod_emod_of_dvd _ (Int.dvd_refl _)]
  rw [← h]; exact Int.emod_eq_of_lt (by omega) (by omega)
theorem on_under (x : Int) (n : Nat) (h0 : -(n : Int) ≤ x) (h1 : x < 0) : x % (n : Int) = x + n := by
  have h : (x + n - n) % (n : Int) = (x + n) % (n : Int) := by rw [Int.sub_emod, Int.emod_self, Int.sub_zero, Int.emod_emod_of_dvd _ (Int.dvd_refl _)]
  rw [show x + n - n = x by omega] at h
  rw [h]; exact Int.emod_eq_of_lt (by omega) (by omega)
theorem on_val (n : Nat) (a : Int) (j : Nat) (h0 : 0 ≤ a) (h1 : a < n) (hj : j ≤ n) : onI n a (j : Int) = if a + j < n then a + j else a + j - n := by
  unfold onI
  by_cases h : a + j < n
  · rw [if_pos h]; exact Int.emod_eq_of_lt (by omega) h
  · rw [if_neg h]; exact on_over _ _ (by omega) (by omega)
theorem spanN_val (n : Nat) (a b : Int) (a0 : 0 ≤ a) (a1 : a < n) (b0 : 0 ≤ b) (b1 : b < n) : 1 ≤ spanN n a b ∧ spanN n a b ≤ n ∧ onI n a (spanN n a b) = b ∧ ∀ j, 1 ≤ j → j < spanN n a b → onI n a (j : Int) ≠ b := by
  unfold spanN
  by_cases h : b = a
  · rw [if_pos h]
    refine ⟨by omega, Nat.le_refl _, ?_, fun j j1 j2 => ?_⟩
    · rw [on_val n a n a0 a1 (by omega), if_neg (by omega)]; omega
    · rw [on_val n a j a0 a1 (by omega)]; split <;> omega
  · rw [if_neg h]
    have e : (b - a) % (n : Int) = if a < b then b - a else b - a + n := by
      by_cases hh : a < b
      · rw [if_pos hh]; exact Int.emod_eq_of_lt (by omega) (by omega)
      · rw [if_neg hh]; exact on_under _ _ (by omega) (by omega)
    rw [e]
    by_cases hh : a < b
    · rw [if_pos hh]
      refine ⟨by omega, by omega, ?_, fun j j1 j2 => ?_⟩
      · rw [on_val n a _ a0 a1 (by omega), if_pos (by omega)]; omega
      · rw [on_val n a j a0 a1 (by omega)]; split <;> omega
    · rw [if_neg hh]
      refine ⟨by omega, by omega, ?_, fun j j1 j2 => ?_⟩
      · rw [on_val n a _ a0 a1 (by omega), if_neg (by omega)]; omega
      · rw [on_val n a j a0 a1 (by omega)]; split <;> omega
theorem Span_loop (r c : Int) (l : List S47) (cu : Int) (lo ins : Bool) (a b : Int) (hn : l.length ≤ 16383) (a0 : 0 ≤ a) (a1 : a < l.length) (b0 : 0 ≤ b) (b1 : b < l.length) : ∀ (d K m : Nat), d + m = spanN l.length a b → 1 ≤ m → d < K →
    grid_Span.l0 K b (uptoI (fun j => onI l.length a j) m) (onI l.length a (m : Int)) r c l cu lo ins = some (spanI l.length a b)
  | 0, K, m, hd, h1, hK => by
    obtain ⟨K, rfl⟩ : ∃ z, K = z + 1 := ⟨K - 1, by omega⟩
    obtain ⟨_, _, v, _⟩ := spanN_val l.length a b a0 a1 b0 b1
    obtain rfl : m = spanN l.length a b := by omega
    rw [grid_Span.l0, if_pos v]; rfl
  | d + 1, K, m, hd, h1, hK => by
    obtain ⟨K, rfl⟩ : ∃ z, K = z + 1 := ⟨K - 1, by omega⟩
    obtain ⟨_, v1, _, v⟩ := spanN_val l.length a b a0 a1 b0 b1
    have ih := Span_loop r c l cu lo ins a b hn a0 a1 b0 b1 d K (m + 1) (by omega) (by omega) (by omega)
    have n0 := onI_nonneg (n := l.length) (by omega) a (m : Int)
    have n1 := onI_lt (n := l.length) (by omega) a (m : Int)
    rw [grid_Span.l0, if_neg (v m h1 (by omega)), if_pos (by rw [uptoI_length]; omega), if_pos (by rw [uptoI_length]; omega), grid_On_eq r c l cu lo ins _ _ hn n0 n1, Option.bind_some, on_step]
    rw [uptoI_succ] at ih
    exact ih
theorem Span_eq (k : Nat) (r c : Int) (l : List S47) (cu : Int) (lo ins : Bool) (a b : Int) (hn : l.length ≤ 16383) (a0 : 0 ≤ a) (a1 : a < l.length) (b0 : 0 ≤ b) (b1 : b < l.length) (hk : l.length < k) : grid_Span.f k r c l cu lo ins a b = some (spanI l.length a b) := by
  unfold grid_Span.f
  obtain ⟨v0, v1, _⟩ := spanN_val l.length a b a0 a1 b0 b1
  rw [grid_On_eq r c l cu lo ins _ _ hn a0 a1, Option.bind_some]
  have h := Span_loop r c l cu lo ins a b hn a0 a1 b0 b1 (spanN l.length a b - 1) k 1 (by omega) (by omega) (by omega)
  have e : uptoI (fun j : Nat => onI l.length a (j : Int)) 1 = [a] := by
    show [onI l.length a ((0 : Nat) : Int)] = [a]
    rw [on_zero _ _ a0 a1]
  rw [e] at h
  exact h
end Go.Proofs.YtphboakgkmjpbaaGreatDoor.P
namespace Go.Proofs.YtphboakgkmjpbaaGreatDoor.P
open Go.RowKit Go.Proofs.YtphboakgkmjpbaaGreatDoorW.PrintWords Go.Proofs.YtphboakgkmjpbaaGreatDoorW.PrintLast
set_option linter.unusedVariables false
set_option linter.unusedSimpArgs false
/-- the cells, the cursor, the place behind an order -/
def doT (l : List S47) (cu at_ k : Int) (tx : List Int) (ap an : Bool) (as_ : Int) (am : Bool) (ad ch : Int) : List S47 × Int × Int :=
  if k = 1 then ((textN (l, at_) tx tx.length).1, cu, (textN (l, at_) tx tx.length).2)
  else if k = 2 then (l.set at_.toNat ⟨true, ⟨ap, an, as_, am⟩, 0⟩, cu, onI l.length at_ 1)
  else if k = 3 then (l, cu, ad)
  else if k = 4 then (l, at_, at_)
  else if k = 5 then (l, cu, tabI l at_)
  else if k = 6 then ((repN (l, at_) ch (spanN l.length at_ ad)).1, cu, ad)
  else (eraseN (openI l) l (spanI l.length at_ ad) (spanN l.length at_ ad), cu, ad)
theorem spanI_len (n : Nat) (a b : Int) : (spanI n a b).length = spanN n a b := by unfold spanI; rw [uptoI_length]
theorem span_mem {n : Nat} {a b x : Int} (hp : 0 < n) (h : x ∈ spanI n a b) : 0 ≤ x ∧ x < n := by
  unfold spanI uptoI at h
  obtain ⟨j, _, rfl⟩ := List.mem_map.1 h
  exact ⟨onI_nonneg hp a _, onI_lt hp a _⟩
/-- what a right order's parts are -/
theorem wrong_parts {k : Int} {tx : List Int} {ap an : Bool} {as_ : Int} {am : Bool} {ad ch size : Int} (h : wrongI k tx ap an as_ am ad ch size = 0) :
    1 ≤ k ∧ k ≤ 7 ∧ tx.all chI = true ∧ (k = 2 → 0 ≤ as_ ∧ as_ ≤ 3) ∧ (k = 6 → chI ch = true) ∧ ((k = 3 ∨ k = 6 ∨ k = 7) → 0 ≤ ad ∧ ad < size) := by
  unfold wrongI at h
  by_cases h0 : k < 1 ∨ 7 < k
  · rw [if_pos h0] at h; cases h
  rw [if_neg h0] at h
  by_cases h1 : ((k == 1) != decide (0 < tx.length)) = true ∨ tx.all chI = false
  · rw [if_pos h1] at h; cases h
  rw [if_neg h1] at h
  by_cases h2 : (if k = 2 then as_ < 0 ∨ 3 < as_ else (ap || (an || (!(as_ == 0) || am))) = true)
  · rw [if_pos h2] at h; cases h
  rw [if_neg h2] at h
  by_cases h3 : (if k = 6 then chI ch = false else ch ≠ 0)
  · rw [if_pos h3] at h; cases h
  rw [if_neg h3] at h
  refine ⟨by omega, by omega, ?_, ?_, ?_, ?_⟩
  · cases hh : tx.all chI
    · exact absurd (Or.inr hh) h1
    · rfl
  · intro e; rw [if_pos e] at h2; omega
  · intro e; rw [if_pos e] at h3; cases hh : chI ch
    · exact absurd hh h3
    · rfl
  · intro e
    rw [if_pos e] at h
    by_cases h4 : ad < 0 ∨ size ≤ ad
    · rw [if_pos h4] at h; cases h
    · omega
theorem eraseF_congr {op op' : Int → Bool} {i : Int} (h : op i = op' i) (a : List S47) : eraseF op a i = eraseF op' a i := by unfold eraseF; rw [h]
theorem fold_congr {op op' : Int → Bool} : ∀ (sp : List Int) (a : List S47), (∀ x ∈ sp, op x = op' x) → sp.foldl (eraseF op) a = sp.foldl (eraseF op') a
  | [], a, _ => rfl
  | i :: s, a, h => by rw [List.foldl_cons, List.foldl_cons, eraseF_congr (h i (by simp)), fold_congr s _ (fun x hx => h x (by simp [hx]))]
theorem eraseN_congr {op op' : Int → Bool} {l : List S47} {sp : List Int} {n : Nat} (h : ∀ x ∈ sp, op x = op' x) : eraseN op l sp n = eraseN op' l sp n := fold_congr _ _ fun x hx => h x (List.mem_of_mem_take hx)
theorem doF_eq (K : Nat) (r c : Int) (l : List S47) (cu : Int) (lo ins : Bool) (at_ k : Int) (tx : List Int) (ap an : Bool) (as_ : Int) (am : Bool) (ad ch : Int) (hn : l.length ≤ 16383) (h0 : 0 ≤ at_) (h1 : at_ < l.length) (ht : tx.length ≤ 16383) (hK : l.length < K) (hw : wrongI k tx ap an as_ am ad ch l.length = 0) :
    doF K r c l cu lo ins at_ k tx ap an as_ am ad ch = some (doT l cu at_ k tx ap an as_ am ad ch) := by
  obtain ⟨k0, k1, _, _, _, hA⟩ := wrong_parts hw
  have hp : 0 < l.length := by omega
  unfold doF doT
  rw [if_pos ⟨hn, h0, h1, ht⟩]
  by_cases e1 : k = 1
  · rw [if_pos e1, if_pos e1]
  rw [if_neg e1, if_neg e1]
  by_cases e2 : k = 2
  · rw [if_pos e2, if_pos e2]
  rw [if_neg e2, if_neg e2]
  by_cases e3 : k = 3
  · rw [if_pos e3, if_pos e3]
  rw [if_neg e3, if_neg e3]
  by_cases e4 : k = 4
  · rw [if_pos e4, if_pos e4]
  rw [if_neg e4, if_neg e4]
  by_cases e5 : k = 5
  · rw [if_pos e5, if_pos e5]
  rw [if_neg e5, if_neg e5]
  obtain ⟨a0, a1⟩ := hA (by omega)
  obtain ⟨_, v1, _⟩ := spanN_val l.length at_ ad h0 h1 a0 a1
  have hS := Span_eq K r c l cu lo ins at_ ad hn h0 h1 a0 a1 hK
  by_cases e6 : k = 6
  · rw [if_pos e6, if_pos e6, hS, Option.bind_some, if_pos (by rw [spanI_len]; omega), spanI_len]
  · rw [if_neg e6, if_neg e6, if_pos (show k = 7 by omega), hS, Option.bind_some, if_pos, spanI_len]
    · rw [eraseN_congr (op := fun i => (field_Open.f r c l cu lo ins i).getD false) (op' := openI l) fun x hx => by
        obtain ⟨x0, x1⟩ := span_mem hp hx
        show (field_Open.f r c l cu lo ins x).getD false = _
        rw [fOpen_eq r c l cu lo ins x hn x0 x1]; rfl]
    · refine ⟨by rw [spanI_len]; omega, ?_⟩
      rw [List.all_eq_true]
      intro x hx
      obtain ⟨x0, x1⟩ := span_mem hp hx
      rw [decide_eq_true x0, decide_eq_true x1, fOpen_eq r c l cu lo ins x hn x0 x1]; rfl
theorem okC_new {x : Int} (h : chI x = true) : okC (newC x) = true := by
  unfold chI at h
  simp only [okC, newC, Bool.false_eq_true, if_false]; exact h
theorem okC_set {l : List S47} (ok : ∀ x ∈ l, okC x = true) (i : Nat) {v : S47} (h : okC v = true) : ∀ x ∈ l.set i v, okC x = true := fun x hx => by
  rcases List.mem_or_eq_of_mem_set hx with h1 | h1
  · exact ok x h1
  · rw [h1]; exact h
theorem put1_ok {s : List S47 × Int} (ok : ∀ x ∈ s.1, okC x = true) {c : Int} (h : chI c = true) : ∀ x ∈ (put1 s c).1, okC x = true := okC_set ok _ (okC_new h)
theorem fold_ok : ∀ (tx : List Int) (s : List S47 × Int), (∀ x ∈ s.1, okC x = true) → tx.all chI = true → ∀ x ∈ (tx.foldl put1 s).1, okC x = true
  | [], s, ok, _ => ok
  | c :: t, s, ok, h => by
    rw [List.all_cons, Bool.and_eq_true] at h
    exact fold_ok t _ (put1_ok ok h.1) h.2
theorem repN_ok {s : List S47 × Int} (ok : ∀ x ∈ s.1, okC x = true) {c : Int} (h : chI c = true) : ∀ n, ∀ x ∈ (repN s c n).1, okC x = true
  | 0 => ok
  | n + 1 => put1_ok (repN_ok ok h n) h
/-- what is erased: open cells alone, and just their characters -/
theorem fold_rd (op : Int → Bool) (y : Int) (y0 : 0 ≤ y) : ∀ (sp : List Int) (a : List S47), (∀ x ∈ sp, 0 ≤ x ∧ x < a.length) → rd_T47 (sp.foldl (eraseF op) a) y = rd_T47 a y ∨ (op y = true ∧ rd_T47 (sp.foldl (eraseF op) a) y = ⟨(rd_T47 a y).f0, (rd_T47 a y).f1, 0⟩)
  | [], a, _ => .inl rfl
  | i :: s, a, h => by
    rw [List.foldl_cons]
    have hl := eraseF_len op a i
    obtain ⟨i0, i1⟩ := h i (by simp)
    have e : rd_T47 (eraseF op a i) y = rd_T47 a y ∨ (op y = true ∧ rd_T47 (eraseF op a i) y = ⟨(rd_T47 a y).f0, (rd_T47 a y).f1, 0⟩) := by
      unfold eraseF
      by_cases ho : op i = true
      · rw [if_pos ho, rd_set a i y _ i0 i1 y0]
        by_cases hy : i = y
        · subst hy; rw [if_pos rfl]; exact .inr ⟨ho, rfl⟩
        · rw [if_neg hy]; exact .inl rfl
      · rw [if_neg ho]; exact .inl rfl
    rcases fold_rd op y y0 s (eraseF op a i) (fun x hx => by rw [hl]; exact h x (by simp [hx])) with h1 | ⟨h1, h2⟩
    · rcases e with e | ⟨e1, e2⟩
      · exact .inl (h1.trans e)
      · exact .inr ⟨e1, h1.trans e2⟩
    · rcases e with e | ⟨e1, e2⟩
      · exact .inr ⟨h1, by rw [h2, e]⟩
      · exact .inr ⟨h1, by rw [h2, e2]⟩
theorem erase_rd (l : List S47) (a b : Int) (hp : 0 < l.length) (n : Nat) (y : Int) (y0 : 0 ≤ y) : rd_T47 (eraseN (openI l) l (spanI l.length a b) n) y = rd_T47 l y ∨ (openI l y = true ∧ rd_T47 (eraseN (openI l) l (spanI l.length a b) n) y = ⟨(rd_T47 l y).f0, (rd_T47 l y).f1, 0⟩) :=
  fold_rd (openI l) y y0 _ l fun x hx => span_mem hp (List.mem_of_mem_take hx)
theorem erase_ok {l : List S47} (ok : ∀ x ∈ l, okC x = true) (a b : Int) (hp : 0 < l.length) (n : Nat) : ∀ x ∈ eraseN (openI l) l (spanI l.length a b) n, okC x = true := fun x hx => by
  obtain ⟨y, y0, y1, rfl⟩ := mem_rd _ x hx
  rw [eraseN_len] at y1
  rcases erase_rd l a b hp n y y0 with h | ⟨h, e⟩
  · rw [h]; exact ok _ (rd_mem_cells l y y0 y1)
  · rw [e, plain_cell ok y y0 y1 (open_isF h)]; rfl
theorem tab_range (l : List S47) (hp : 0 < l.length) : ∀ (d : Nat) (x : Int), 0 ≤ tabW l d x ∧ tabW l d x < l.length
  | 0, x => ⟨Int.le_refl _, by unfold tabW; omega⟩
  | d + 1, x => by
    unfold tabW
    split
    · exact ⟨onI_nonneg hp x 1, onI_lt hp x 1⟩
    · exact tab_range l hp d (x + 1)
theorem doT_right {r c : Int} {l : List S47} {cu at_ k : Int} {tx : List Int} {ap an : Bool} {as_ : Int} {am : Bool} {ad ch : Int} (hr : RightI r c l cu) (h0 : 0 ≤ at_) (h1 : at_ < l.length) (hw : wrongI k tx ap an as_ am ad ch l.length = 0) :
    (doT l cu at_ k tx ap an as_ am ad ch).1.length = l.length ∧ RightI r c (doT l cu at_ k tx ap an as_ am ad ch).1 (doT l cu at_ k tx ap an as_ am ad ch).2.1 ∧ 0 ≤ (doT l cu at_ k tx ap an as_ am ad ch).2.2 ∧ (doT l cu at_ k tx ap an as_ am ad ch).2.2 < l.length := by
  obtain ⟨k0, k1, hT, hS, hC, hA⟩ := wrong_parts hw
  have hp : 0 < l.length := by omega
  have key : ∀ (l' : List S47) (cu' at' : Int), l'.length = l.length → (∀ x ∈ l', okC x = true) → 0 ≤ cu' → cu' < l.length → 0 ≤ at' → at' < l.length → (l'.length = l.length ∧ RightI r c l' cu' ∧ 0 ≤ at' ∧ at' < l.length) := fun l' cu' at' hl ok c0 c1 a0 a1 => ⟨hl, ⟨hr.r1, hr.c1, hr.r2, hr.c2, hr.rc, by rw [hl]; exact hr.len, c0, by rw [hl]; exact c1, ok⟩, a0, a1⟩
  unfold doT
  by_cases e1 : k = 1
  · rw [if_pos e1]
    obtain ⟨i0, i1, i2⟩ := fold_in (n := l.length) (tx.take tx.length) (l, at_) ⟨rfl, h0, h1⟩
    refine key _ _ _ i0 ?_ hr.cu0 hr.cu1 i1 i2
    unfold textN
    rw [List.take_length]
    exact fold_ok tx _ hr.ok hT
  rw [if_neg e1]
  by_cases e2 : k = 2
  · rw [if_pos e2]
    refine key _ _ _ (by simp) (okC_set hr.ok _ ?_) hr.cu0 hr.cu1 (onI_nonneg hp _ _) (onI_lt hp _ _)
    unfold okC
    obtain ⟨s0, s1⟩ := hS e2
    rw [if_pos rfl]
    simp [s0, s1]
  rw [if_neg e2]
  by_cases e3 : k = 3
  · rw [if_pos e3]
    obtain ⟨a0, a1⟩ := hA (.inl e3)
    exact key _ _ _ rfl hr.ok hr.cu0 hr.cu1 a0 a1
  rw [if_neg e3]
  by_cases e4 : k = 4
  · rw [if_pos e4]; exact key _ _ _ rfl hr.ok h0 h1 h0 h1
  rw [if_neg e4]
  by_cases e5 : k = 5
  · rw [if_pos e5]
    obtain ⟨t0, t1⟩ := tab_range l hp (l.length - at_.toNat) at_
    exact key _ _ _ rfl hr.ok hr.cu0 hr.cu1 t0 t1
  rw [if_neg e5]
  obtain ⟨a0, a1⟩ := hA (by omega)
  by_cases e6 : k = 6
  · rw [if_pos e6]
    obtain ⟨i0, _, _⟩ := repN_in (n := l.length) (s := (l, at_)) ⟨rfl, h0, h1⟩ ch (spanN l.length at_ ad)
    exact key _ _ _ i0 (repN_ok hr.ok (hC e6) _) hr.cu0 hr.cu1 a0 a1
  · rw [if_neg e6]
    exact key _ _ _ (eraseN_len _ _ _ _) (erase_ok hr.ok _ _ hp _) hr.cu0 hr.cu1 a0 a1
end Go.Proofs.YtphboakgkmjpbaaGreatDoor.P
namespace Go.Proofs.YtphboakgkmjpbaaGreatDoor.P
open Go.RowKit Go.Proofs.YtphboakgkmjpbaaGreatDoorW.PrintWords Go.Proofs.YtphboakgkmjpbaaGreatDoorW.PrintLast
set_option linter.unusedVariables false
set_option linter.unusedSimpArgs false
abbrev St := List S47 × Int × Int
/-- what is wrong with an order -/
def wrO (size : Int) (o : S49) : Int := wrongI o.f0 o.f1 o.f2.f0 o.f2.f1 o.f2.f2 o.f2.f3 o.f3 o.f4 size
def doO (s : St) (o : S49) : St := doT s.1 s.2.1 s.2.2 o.f0 o.f1 o.f2.f0 o.f2.f1 o.f2.f2 o.f2.f3 o.f3 o.f4
def allT : List S49 → St → St
  | [], s => s
  | o :: t, s => allT t (doO s o)
/-- the first wrong order, and what is wrong with it -/
def badT (size : Int) : List S49 → Int → Option (Int × Int)
  | [], _ => none
  | o :: t, i => if wrO size o = 0 then badT size t (i + 1) else some (i, wrO size o)
theorem bad_none {size : Int} : ∀ {ls : List S49} {i : Int}, badT size ls i = none → ∀ o ∈ ls, wrO size o = 0
  | [], _, _ => by simp
  | o :: t, i, h => by
    rw [badT] at h
    by_cases e : wrO size o = 0
    · rw [if_pos e] at h
      intro x hx
      rcases List.mem_cons.1 hx with rfl | hx
      · exact e
      · exact bad_none h x hx
    · rw [if_neg e] at h; cases h
theorem none_bad {size : Int} : ∀ {ls : List S49} {i : Int}, (∀ o ∈ ls, wrO size o = 0) → badT size ls i = none
  | [], _, _ => rfl
  | o :: t, i, h => by rw [badT, if_pos (h o (by simp))]; exact none_bad fun x hx => h x (by simp [hx])
structure GoodO (o : S49) : Prop where
  tx : ∀ x ∈ o.f1, x ≤ 255
  ch : o.f4 ≤ 255
  len : o.f1.length ≤ 9000
/-- a state on a right screen of a size -/
structure StI (r c : Int) (n : Nat) (s : St) : Prop where
  len : s.1.length = n
  right : RightI r c s.1 s.2.1
  at0 : 0 ≤ s.2.2
  at1 : s.2.2 < n
theorem StI.doO {r c : Int} {n : Nat} {s : St} (h : StI r c n s) {o : S49} (hw : wrO n o = 0) : StI r c n (doO s o) := by
  obtain ⟨hl, hr, h0, h1⟩ := h
  have := doT_right hr h0 (by omega) (by rw [hl]; exact hw)
  obtain ⟨q1, q2, q3, q4⟩ := this
  exact ⟨by rw [← hl]; exact q1, q2, q3, by rw [← hl]; exact q4⟩
theorem StI.allT {r c : Int} {n : Nat} : ∀ {ls : List S49} {s : St}, StI r c n s → (∀ o ∈ ls, wrO n o = 0) → StI r c n (allT ls s)
  | [], s, h, _ => h
  | o :: t, s, h, hw => StI.allT (ls := t) (s := Go.Proofs.YtphboakgkmjpbaaGreatDoor.P.doO s o) (h.doO (hw o (by simp))) fun x hx => hw x (by simp [hx])
theorem badF_eq (K : Nat) (hK : 12 ≤ K) (size : Int) : ∀ (ls : List S49) (i : Int), (∀ o ∈ ls, GoodO o) → badF K size ls i = some (badT size ls i)
  | [], _, _ => rfl
  | o :: t, i, h => by
    obtain ⟨h1, h2, h3⟩ := h o (by simp)
    rw [badF, fRight_eq K hK _ _ _ _ _ _ _ _ _ h1 (by omega) h2, Option.bind_some, badT]
    show _ = some (if wrO size o = 0 then _ else _)
    by_cases e : wrO size o = 0
    · rw [if_pos e]
      show (match errN (wrO size o) with | none => _ | some (.num n) => _ | some .spot => _) = _
      rw [errN, if_pos e]
      exact badF_eq K hK size t (i + 1) fun x hx => h x (by simp [hx])
    · rw [if_neg e]
      show (match errN (wrO size o) with | none => _ | some (.num n) => _ | some .spot => _) = _
      rw [errN, if_neg e]
theorem allF_eq (K : Nat) (r c : Int) (lo ins : Bool) (n : Nat) (hn : n ≤ 16383) (hK : n < K) : ∀ (ls : List S49) (s : St), StI r c n s → (∀ o ∈ ls, GoodO o) → (∀ o ∈ ls, wrO n o = 0) → allF K r c lo ins ls s = some (allT ls s)
  | [], s, _, _, _ => rfl
  | o :: t, s, hs, hg, hw => by
    obtain ⟨h1, h2, h3⟩ := hg o (by simp)
    have h0 := hw o (by simp)
    rw [allF, doF_eq K r c s.1 s.2.1 lo ins s.2.2 _ _ _ _ _ _ _ _ (by rw [hs.len]; exact hn) hs.at0 (by rw [hs.len]; exact hs.at1) (by omega) (by rw [hs.len]; exact hK) (by rw [hs.len]; exact h0), Option.bind_some]
    exact allF_eq K r c lo ins n hn hK t _ (hs.doO h0) (fun x hx => hg x (by simp [hx])) (fun x hx => hw x (by simp [hx]))
theorem fAll_eq (K : Nat) (hK : 12 ≤ K) (r c : Int) (l : List S47) (cu : Int) (lo ins : Bool) (at_ : Int) (ls : List S49) (hr : RightI r c l cu) (hn : l.length ≤ 16383) (h0 : 0 ≤ at_) (h1 : at_ < l.length) (hk : l.length < K) (hl : ls.length ≤ 16383) (hg : ∀ o ∈ ls, GoodO o) :
    paint_All.f K r c l cu lo ins at_ ls = some (match badT l.length ls 0 with
      | some (i, n) => (r, c, l, cu, lo, ins, at_, some Er.spot, [⟨i, n⟩])
      | none => (r, c, (allT ls (l, cu, at_)).1, (allT ls (l, cu, at_)).2.1, lo, ins, (allT ls (l, cu, at_)).2.2, none, [])) := by
  have hp : 0 < l.length := by omega
  unfold paint_All.f
  rw [if_pos hl, badF_eq K hK _ ls 0 hg, Option.bind_some]
  cases hb : badT l.length ls 0 with
  | some p => rfl
  | none =>
    refine (if_pos ⟨hn, hp⟩).trans ?_
    rw [allF_eq K r c lo ins l.length hn hk ls (l, cu, at_) ⟨rfl, hr, h0, h1⟩ hg (bad_none hb), Option.bind_some]
theorem rd_ord (ls : List S49) (f : Nat) (h : f < ls.length) : rd_T49 ls (f : Int) = ls[f] := by unfold rd_T49; simp [h]
theorem fewO_loop (cmd : Int) (b1 b2 b3 : Bool) (ls : List S49) : ∀ (d K f : Nat), d + f = 100 → d + d + 2 < K → ∃ b, shutterref08_Few.l0 K f cmd b1 b2 b3 ls = some b ∧ (b = true → ls.length ≤ 60 ∧ ∀ o ∈ ls.drop f, o.f1.length ≤ 9000)
  | 0, K, f, hd, hK => by
    obtain ⟨K, rfl⟩ : ∃ z, K = z + 2 := ⟨K - 2, by omega⟩
    rw [shutterref08_Few.l0]
    by_cases hf : (f : Int) < ls.length
    · rw [if_pos hf, decide_eq_false (by omega), shutterref08_Few.j1, if_neg (by decide)]
      exact ⟨_, rfl, fun h => by have := of_decide_eq_true h; omega⟩
    · rw [if_neg hf, shutterref08_Few.j1, if_neg (by decide)]
      exact ⟨_, rfl, fun h => ⟨by have := of_decide_eq_true h; omega, by rw [List.drop_eq_nil_of_le (by omega)]; simp⟩⟩
  | d + 1, K, f, hd, hK => by
    obtain ⟨K, rfl⟩ : ∃ z, K = z + 2 := ⟨K - 2, by omega⟩
    rw [shutterref08_Few.l0]
    by_cases hf : (f : Int) < ls.length
    · have hf' : f < ls.length := by omega
      rw [if_pos hf, decide_eq_true (by omega), shutterref08_Few.j1, if_pos rfl, if_pos (by omega), if_pos hf, rd_ord ls f hf', w64 (by omega)]
      by_cases ht : (ls[f].f1.length : Int) > 9000
      · rw [if_pos ht]; exact ⟨_, rfl, fun h => by cases h⟩
      · rw [if_neg ht]
        obtain ⟨b, hb, hi⟩ := fewO_loop cmd b1 b2 b3 ls d K (f + 1) (by omega) (by omega)
        refine ⟨b, hb, fun h => ⟨(hi h).1, ?_⟩⟩
        rw [List.drop_eq_getElem_cons hf']
        intro o ho
        rcases List.mem_cons.1 ho with rfl | ho
        · omega
        · exact (hi h).2 o ho
    · rw [if_neg hf, shutterref08_Few.j1, if_neg (by decide)]
      exact ⟨_, rfl, fun h => ⟨by have := of_decide_eq_true h; omega, by rw [List.drop_eq_nil_of_le (by omega)]; simp⟩⟩
theorem fewO_eq (K : Nat) (cmd : Int) (b1 b2 b3 : Bool) (ls : List S49) (hK : 210 < K) : ∃ b, shutterref08_Few.f K cmd b1 b2 b3 ls = some b ∧ (b = true → ls.length ≤ 60 ∧ ∀ o ∈ ls, o.f1.length ≤ 9000) := by
  obtain ⟨b, hb, hi⟩ := fewO_loop cmd b1 b2 b3 ls 100 K 0 rfl (by omega)
  rw [List.drop_zero] at hi
  exact ⟨b, hb, hi⟩
end Go.Proofs.YtphboakgkmjpbaaGreatDoor.P
namespace Go.Proofs.YtphboakgkmjpbaaGreatDoor.P
open Go.RowKit Go.Proofs.YtphboakgkmjpbaaGreatDoorW.PrintWords Go.Proofs.YtphboakgkmjpbaaGreatDoorW.PrintLast
set_option linter.unusedVariables false
set_option linter.unusedSimpArgs false
/-- how many bytes an order has -/
def lenO (o : S49) : Nat := if o.f0 = 1 then o.f1.length else if o.f0 = 2 then 2 else if o.f0 = 4 ∨ o.f0 = 5 then 1 else if o.f0 = 6 then 4 else 3
theorem fPut_eq (K : Nat) (hK : 12 ≤ K) (size : Int) (hs : size ≤ 4096) (o : S49) (hg : GoodO o) :
    (wrO size o = 0 → ∃ row, order_Put.f K o.f0 o.f1 o.f2.f0 o.f2.f1 o.f2.f2 o.f2.f3 o.f3 o.f4 size = some (row, none, []) ∧ row.length = lenO o) ∧ (wrO size o ≠ 0 → order_Put.f K o.f0 o.f1 o.f2.f0 o.f2.f1 o.f2.f2 o.f2.f3 o.f3 o.f4 size = some ([], some (Er.num (wrO size o)), [])) := by
  obtain ⟨htx, hch, hl⟩ := hg
  unfold order_Put.f
  rw [fRight_eq K hK _ _ _ _ _ _ _ _ _ htx (by omega) hch, Option.bind_some]
  show (wrO size o = 0 → ∃ row, (if (errN (wrO size o)).isSome = true then _ else _) = _ ∧ _) ∧ (wrO size o ≠ 0 → (if (errN (wrO size o)).isSome = true then some ([], errN (wrO size o), []) else _) = _)
  refine ⟨fun h => ?_, fun h => ?_⟩
  · obtain ⟨k0, k1, hT, hS, hC, hA⟩ := wrong_parts h
    rw [h, errN, if_pos rfl]
    unfold lenO
    by_cases h1 : o.f0 = 1
    · exact ⟨_, (if_neg (by simp)).trans ((if_pos h1).trans (if_pos (by omega))), by rw [if_pos h1]⟩
    by_cases h2 : o.f0 = 2
    · obtain ⟨s0, s1⟩ := hS h2
      obtain ⟨x, hx⟩ := put_fine K (by omega) o.f2.f0 o.f2.f1 o.f2.f3 o.f2.f2 s0 s1
      exact ⟨_, (if_neg (by simp)).trans ((if_neg h1).trans ((if_pos h2).trans (by rw [hx, Option.bind_some]; exact if_neg (by simp)))), by rw [if_neg h1, if_pos h2]; rfl⟩
    by_cases h4 : o.f0 = 4
    · exact ⟨_, (if_neg (by simp)).trans ((if_neg h1).trans ((if_neg h2).trans (if_pos h4))), by rw [if_neg h1, if_neg h2, if_pos (.inl h4)]; rfl⟩
    by_cases h5 : o.f0 = 5
    · exact ⟨_, (if_neg (by simp)).trans ((if_neg h1).trans ((if_neg h2).trans ((if_neg h4).trans (if_pos h5)))), by rw [if_neg h1, if_neg h2, if_pos (.inr h5)]; rfl⟩
    obtain ⟨a0, a1⟩ := hA (by omega)
    by_cases h3 : o.f0 = 3
    · exact ⟨_, (if_neg (by simp)).trans ((if_neg h1).trans ((if_neg h2).trans ((if_neg h4).trans ((if_neg h5).trans ((if_pos ⟨a0, a1, hs⟩).trans (if_pos h3)))))), by rw [if_neg h1, if_neg h2, if_neg (by omega), if_neg (by omega)]; rfl⟩
    by_cases h7 : o.f0 = 7
    · exact ⟨_, (if_neg (by simp)).trans ((if_neg h1).trans ((if_neg h2).trans ((if_neg h4).trans ((if_neg h5).trans ((if_pos ⟨a0, a1, hs⟩).trans ((if_neg h3).trans (if_pos h7))))))), by rw [if_neg h1, if_neg h2, if_neg (by omega), if_neg (by omega)]; rfl⟩
    · have h6 : o.f0 = 6 := by omega
      exact ⟨_, (if_neg (by simp)).trans ((if_neg h1).trans ((if_neg h2).trans ((if_neg h4).trans ((if_neg h5).trans ((if_pos ⟨a0, a1, hs⟩).trans ((if_neg h3).trans ((if_neg h7).trans (if_pos h6)))))))), by rw [if_neg h1, if_neg h2, if_neg (by omega), if_pos h6]; rfl⟩
  · rw [errN, if_neg h]; rfl
/-- the first order that can't be written, and why -/
def badS (size : Int) : Bool → List S49 → Int → Option (Int × Int)
  | _, [], _ => none
  | p, o :: t, i => if wrO size o ≠ 0 then some (i, wrO size o) else if (p && o.f0 == 1) = true then some (i, 1) else badS size (o.f0 == 1) t (i + 1)
def lenS : List S49 → Nat
  | [] => 0
  | o :: t => lenO o + lenS t
theorem lenO_le {o : S49} (h : o.f1.length ≤ 9000) : lenO o ≤ 9000 := by
  unfold lenO
  split
  · exact h
  · split
    · omega
    · split
      · omega
      · split <;> omega
/-- is the order ahead of a place a text? -/
def ahead (ls : List S49) (i : Nat) : Bool := decide (0 < i) && ((rd_T49 ls ((i : Int) - 1)).f0 == 1)
theorem sorders_loop (size : Int) (hs : size ≤ 4096) (ls : List S49) (hl : ls.length ≤ 60) (hg : ∀ o ∈ ls, GoodO o) : ∀ (d K i : Nat) (out : List Int), d + i = ls.length → out.length ≤ 9000 * i → d + d + 14 < K →
    (∀ j n, badS size (ahead ls i) (ls.drop i) i = some (j, n) → stream_orders.l0 K ls size out ls ls.length i = some ([], some Er.spot, [⟨j, n⟩])) ∧ (badS size (ahead ls i) (ls.drop i) i = none → ∃ row, stream_orders.l0 K ls size out ls ls.length i = some (row, none, []) ∧ row.length = out.length + lenS (ls.drop i))
  | 0, K, i, out, hd, ho, hK => by
    obtain ⟨K, rfl⟩ : ∃ z, K = z + 1 := ⟨K - 1, by omega⟩
    rw [List.drop_eq_nil_of_le (by omega), stream_orders.l0, if_neg (by omega)]
    exact ⟨fun j n h => by simp [badS] at h, fun _ => ⟨out, rfl, by simp [lenS]⟩⟩
  | d + 1, K, i, out, hd, ho, hK => by
    obtain ⟨K, rfl⟩ : ∃ z, K = z + 2 := ⟨K - 2, by omega⟩
    have hi : i < ls.length := by omega
    obtain ⟨g1, g2, g3⟩ := hg _ (List.getElem_mem hi)
    have hO := lenO_le g3
    obtain ⟨pOk, pBad⟩ := fPut_eq (K + 1) (by omega) size hs ls[i] ⟨g1, g2, g3⟩
    have hiI : (i : Int) < (ls.length : Int) := by omega
    have hi0 : (0 : Int) ≤ (i : Int) := by omega
    rw [List.drop_eq_getElem_cons hi, badS]
    by_cases hw : wrO size ls[i] = 0
    · obtain ⟨row, hrow, hlen⟩ := pOk hw
      have hX : stream_orders.l0 (K + 2) ls size out ls ls.length i = stream_orders.j1 (K + 1) ls size out i row ls ls.length i (ahead ls i && ls[i].f0 == 1) none [] := by
        rw [stream_orders.l0, rd_ord ls i hi]
        refine (if_pos hiI).trans ((if_pos hi0).trans ((if_pos hiI).trans ?_))
        rw [hrow, Option.bind_some]
        refine (if_pos rfl).trans ?_
        by_cases h0 : 0 < i
        · have h0I : (i : Int) > 0 := by omega
          refine (if_pos h0I).trans ?_
          by_cases h1 : ls[i].f0 = 1
          · have hw1 : wrap64 ((i : Int) - 1) = (i : Int) - 1 := w64 (by omega)
            refine (if_pos h1).trans ?_
            rw [hw1]
            have h2 : (0 : Int) ≤ (i : Int) - 1 := by omega
            have h3 : (i : Int) - 1 < (ls.length : Int) := by omega
            refine (if_pos h2).trans ((if_pos h3).trans ?_)
            unfold ahead
            rw [decide_eq_true h0, h1, Bool.true_and]
            simp
          · refine (if_neg h1).trans ?_
            have : (ls[i].f0 == 1) = false := by simp [h1]
            rw [this, Bool.and_false]
        · have h0I : ¬ (i : Int) > 0 := by omega
          refine (if_neg h0I).trans ?_
          unfold ahead
          rw [decide_eq_false h0, Bool.false_and, Bool.false_and]
      rw [hX, if_neg (show ¬ wrO size ls[i] ≠ 0 by omega)]
      cases hf : (ahead ls i && ls[i].f0 == 1) with
      | true =>
        rw [if_pos rfl, stream_orders.j1, if_pos rfl]
        refine ⟨fun j n h => ?_, fun h => by cases h⟩
        simp only [Option.some.injEq, Prod.mk.injEq] at h
        obtain ⟨rfl, rfl⟩ := h
        rfl
      | false =>
        have ih := sorders_loop size hs ls hl hg d K (i + 1) (out ++ row) (by omega) (by rw [List.length_append]; omega) (by omega)
        have ea : ahead ls (i + 1) = (ls[i].f0 == 1) := by
          unfold ahead
          rw [decide_eq_true (by omega), show (((i + 1 : Nat) : Int) - 1) = (i : Int) by omega, rd_ord ls i hi]; rfl
        rw [ea] at ih
        obtain ⟨ih1, ih2⟩ := ih
        have hJ : stream_orders.j1 (K + 1) ls size out i row ls ls.length i false none [] = stream_orders.l0 K ls size (out ++ row) ls ls.length ((i + 1 : Nat) : Int) := by
          rw [stream_orders.j1, w64 (by omega)]
          have hlt : out.length + row.length < 140737488355328 := by omega
          exact (if_neg (by decide)).trans ((if_pos rfl).trans (if_pos hlt))
        rw [if_neg (by decide), hJ]
        refine ⟨ih1, fun h => ?_⟩
        obtain ⟨row', h1, h2⟩ := ih2 h
        exact ⟨row', h1, by rw [h2, List.length_append, lenS]; omega⟩
    · have hX : stream_orders.l0 (K + 2) ls size out ls ls.length i = some ([], some Er.spot, [⟨(i : Int), wrO size ls[i]⟩]) := by
        rw [stream_orders.l0, rd_ord ls i hi]
        refine (if_pos hiI).trans ((if_pos hi0).trans ((if_pos hiI).trans ?_))
        rw [pBad hw, Option.bind_some]
        refine (if_neg (by simp)).trans ?_
        rw [stream_orders.j1, if_neg (by decide)]
        exact (if_neg (by simp)).trans rfl
      rw [hX, if_pos hw]
      refine ⟨fun j n h => ?_, fun h => by cases h⟩
      simp only [Option.some.injEq, Prod.mk.injEq] at h
      obtain ⟨rfl, rfl⟩ := h
      rfl
def knownI (cmd : Int) : Bool := cmd == 241 || (cmd == 245 || (cmd == 111 || (cmd == 242 || cmd == 246)))
def writesI (cmd : Int) : Bool := cmd == 241 || cmd == 245
/-- what is wrong with a command, and where; none: nothing -/
def writeW (cmd : Int) (a u r : Bool) (ls : List S49) (size : Int) : Option (Er × List S177) :=
  if knownI cmd = false then some (.num 5, [])
  else if writesI cmd = false then (if (a || (u || r)) = true ∨ 0 < ls.length then some (.num 1, []) else none)
  else match badS size false ls 0 with
    | some (j, n) => some (.spot, [⟨j, n⟩])
    | none => if 8192 < 2 + lenS ls then some (.num 6, []) else none
theorem known_eq (K : Nat) (hK : 0 < K) (cmd : Int) : stream_known.f K cmd = some (knownI cmd) := by
  obtain ⟨K, rfl⟩ : ∃ z, K = z + 1 := ⟨K - 1, by omega⟩
  unfold stream_known.f knownI
  by_cases h1 : cmd = 241
  · subst h1; rfl
  rw [if_neg h1, stream_known.j0]
  by_cases h2 : cmd = 245
  · subst h2; rfl
  rw [if_neg (by simpa using h2)]
  by_cases h3 : cmd = 111
  · subst h3; rfl
  rw [if_neg h3]
  by_cases h4 : cmd = 242
  · subst h4; rfl
  rw [if_neg h4]
  by_cases h5 : cmd = 246
  · subst h5; rfl
  rw [if_neg h5]; simp [h1, h2, h3, h4, h5]
theorem writes_eq (cmd : Int) : stream_Writes.f cmd = some (writesI cmd) := by
  unfold stream_Writes.f writesI
  by_cases h1 : cmd = 241
  · subst h1; rfl
  · rw [if_neg h1]; simp [h1]
theorem wcc8 : ∀ a b c : Bool, (attr_PutWcc.f 8 a b c).isSome = true := by decide +kernel
theorem wcc_some (K : Nat) (hK : 8 ≤ K) (a b c : Bool) : ∃ n, attr_PutWcc.f K a b c = some n := by
  obtain ⟨j, rfl⟩ : ∃ j, K = 8 + j := ⟨K - 8, by omega⟩
  clear hK
  induction j with
  | zero => exact Option.isSome_iff_exists.mp (wcc8 a b c)
  | succ j ih => obtain ⟨x, hx⟩ := ih; exact ⟨x, attr_PutWcc.mono _ _ _ _ _ hx⟩
theorem fWrite_eq (K : Nat) (cmd : Int) (a u r : Bool) (ls : List S49) (size : Int) (hs : size ≤ 4096) (hl : ls.length ≤ 60) (hg : ∀ o ∈ ls, GoodO o) (hK : 140 < K) :
    (∀ e s, writeW cmd a u r ls size = some (e, s) → stream_Write.f K cmd a u r ls size = some ([], some e, s)) ∧ (writeW cmd a u r ls size = none → ∃ row, stream_Write.f K cmd a u r ls size = some (row, none, [])) := by
  unfold stream_Write.f writeW
  rw [known_eq K (by omega), Option.bind_some]
  cases knownI cmd with
  | false => exact ⟨fun e s h => by simp only [if_true, Option.some.injEq, Prod.mk.injEq] at h; obtain ⟨rfl, rfl⟩ := h; rfl, fun h => by simp at h⟩
  | true =>
    rw [if_pos rfl, Option.bind_some, if_neg (by decide), writes_eq, Option.bind_some]
    cases writesI cmd with
    | false =>
      rw [if_neg (show ¬ (false = true) by decide), if_pos (show (false : Bool) = false from rfl)]
      by_cases hb : (a || (u || r)) = true
      · rw [if_pos hb, if_pos (.inl hb)]
        exact ⟨fun e s h => by simp only [Option.some.injEq, Prod.mk.injEq] at h; obtain ⟨rfl, rfl⟩ := h; rfl, fun h => by cases h⟩
      · rw [if_neg hb]
        by_cases h0 : 0 < ls.length
        · rw [if_pos (show (ls.length : Int) > 0 by omega), if_pos (.inr h0)]
          exact ⟨fun e s h => by simp only [Option.some.injEq, Prod.mk.injEq] at h; obtain ⟨rfl, rfl⟩ := h; rfl, fun h => by cases h⟩
        · rw [if_neg (show ¬ (ls.length : Int) > 0 by omega), if_neg (by rintro (h | h); exact hb h; exact h0 h)]
          exact ⟨fun e s h => (by cases h), fun _ => ⟨_, rfl⟩⟩
    | true =>
      rw [if_pos rfl, if_neg (by decide)]
      obtain ⟨h1, h2⟩ := sorders_loop size hs ls hl hg ls.length K 0 [] rfl (by simp) (by omega)
      rw [List.drop_zero, show ahead ls 0 = false from rfl] at h1 h2
      unfold stream_orders.f
      cases hb : badS size false ls 0 with
      | some p =>
        obtain ⟨j, n⟩ := p
        have e1 := h1 j n hb
        rw [show ((0 : Nat) : Int) = 0 from rfl] at e1
        rw [e1, Option.bind_some]
        exact ⟨fun e s h => by simp only [Option.some.injEq, Prod.mk.injEq] at h; obtain ⟨rfl, rfl⟩ := h; rfl, fun h => by cases h⟩
      | none =>
        obtain ⟨row, e1, e2⟩ := h2 hb
        rw [show ((0 : Nat) : Int) = 0 from rfl] at e1
        rw [e1, Option.bind_some]
        obtain ⟨n, hn⟩ := wcc_some K (by omega) a u r
        have hrl : row.length ≤ 540000 := by
          rw [e2]
          have : ∀ (l : List S49), (∀ o ∈ l, GoodO o) → lenS l ≤ 9000 * l.length := by
            intro l
            induction l with
            | nil => intro _; exact Nat.le_refl _
            | cons o t ih => intro h; have := lenO_le (h o (by simp)).len; have := ih (fun x hx => h x (by simp [hx])); rw [lenS, List.length_cons]; omega
          have := this ls hg
          simp only [List.length_nil]; omega
        have E : ∀ x y z v : Option (List Int × Option Er × List S177), (if (none : Option Er).isNone = true then ((attr_PutWcc.f K a u r).bind fun n => (if [(cmd) % 256].length < 140737488355328 then ((some ([(cmd) % 256] ++ [n] : List Int)).bind fun i => (if i.length + row.length < 140737488355328 then ((some (i ++ row : List Int)).bind fun j => (if (j.length : Int) > 8192 then (some (([] : List Int), some (Er.num 6), ([] : List S177))) else (some (j, none, ([] : List S177))))) else y)) else z)) else v) = if 8192 < 2 + lenS ls then some (([] : List Int), some (Er.num 6), ([] : List S177)) else some ([(cmd) % 256] ++ [n] ++ row, none, []) := fun x y z v => by
          have q : ([(cmd) % 256] ++ [n] ++ row).length = 2 + lenS ls := by simp [e2]; omega
          rw [hn, Option.bind_some]
          refine (if_pos rfl).trans ((if_pos (by simp)).trans ?_)
          rw [Option.bind_some]
          refine (if_pos (by simp; omega)).trans ?_
          rw [Option.bind_some, q]
          by_cases hL : 8192 < 2 + lenS ls
          · rw [if_pos hL, if_pos (by omega)]
          · rw [if_neg hL, if_neg (by omega)]
        rw [E none none none]
        by_cases hL : 8192 < 2 + lenS ls
        · simp only [if_pos hL]
          exact ⟨fun e s h => by simp only [Option.some.injEq, Prod.mk.injEq] at h; obtain ⟨rfl, rfl⟩ := h; rfl, fun h => by cases h⟩
        · simp only [if_neg hL]
          exact ⟨fun e s h => (by cases h), fun _ => ⟨_, rfl⟩⟩
/-- a command that can be written has right orders -/
theorem badS_none {size : Int} : ∀ {ls : List S49} {p : Bool} {i : Int}, badS size p ls i = none → ∀ o ∈ ls, wrO size o = 0
  | [], _, _, _ => by simp
  | o :: t, p, i, h => by
    rw [badS] at h
    by_cases hw : wrO size o = 0
    · rw [if_neg (by omega)] at h
      by_cases hb : (p && o.f0 == 1) = true
      · rw [if_pos hb] at h; cases h
      · rw [if_neg hb] at h
        intro x hx
        rcases List.mem_cons.1 hx with rfl | hx
        · exact hw
        · exact badS_none h x hx
    · rw [if_pos hw] at h; cases h
theorem write_orders {cmd : Int} {a u r : Bool} {ls : List S49} {size : Int} (h : writeW cmd a u r ls size = none) (hw : writesI cmd = true) : ∀ o ∈ ls, wrO size o = 0 := by
  unfold writeW at h
  by_cases hk : knownI cmd = false
  · rw [if_pos hk] at h; cases h
  · rw [if_neg hk, if_neg (by rw [hw]; decide)] at h
    cases hb : badS size false ls 0 with
    | some p => rw [hb] at h; cases h
    | none => exact badS_none hb
end Go.Proofs.YtphboakgkmjpbaaGreatDoor.P
namespace Go.Proofs.YtphboakgkmjpbaaGreatDoor.P
open Go.RowKit Go.Proofs.YtphboakgkmjpbaaGreatDoorW.PrintWords Go.Proofs.YtphboakgkmjpbaaGreatDoorW.PrintLast
set_option linter.unusedVariables false
set_option linter.unusedSimpArgs false
def charC (c : S47) (v : Int) : S47 := ⟨c.f0, ⟨c.f1.f0, c.f1.f1, c.f1.f2, c.f1.f3⟩, v⟩
def sweep (p : Int → Bool) (g : S47 → S47) : Nat → Int → List S47 → List S47
  | 0, _, a => a
  | d + 1, x, a => sweep p g d (x + 1) (if p x = true then a.set (x : Int).toNat (g (rd_T47 a x)) else a)
theorem sweep_length (p : Int → Bool) (g : S47 → S47) : ∀ d x a, (sweep p g d x a).length = a.length
  | 0, x, a => rfl
  | d + 1, x, a => by
    unfold sweep; rw [sweep_length p g d]; split
    · rw [List.length_set]
    · rfl
theorem sweep_rd (p : Int → Bool) (g : S47 → S47) : ∀ (d : Nat) (x : Int) (a : List S47), 0 ≤ x → x + d ≤ a.length → ∀ y : Int, 0 ≤ y → rd_T47 (sweep p g d x a) y = if x ≤ y ∧ y < x + d ∧ p y = true then g (rd_T47 a y) else rd_T47 a y
  | 0, x, a, x0, hx, y, y0 => by rw [if_neg (by omega)]; rfl
  | d + 1, x, a, x0, hx, y, y0 => by
    unfold sweep
    have hl : (if p x = true then a.set (x : Int).toNat (g (rd_T47 a x)) else a).length = a.length := by split <;> simp
    rw [sweep_rd p g d (x + 1) _ (by omega) (by rw [hl]; omega) y y0]
    by_cases hp : p x = true
    · rw [if_pos hp, rd_set a x y _ x0 (by omega) y0]
      by_cases e : x = y
      · subst e; rw [if_neg (by omega), if_pos rfl, if_pos ⟨by omega, by omega, hp⟩]
      · rw [if_neg e]
        by_cases h : x + 1 ≤ y ∧ y < x + 1 + d ∧ p y = true
        · rw [if_pos h, if_pos ⟨by omega, by omega, h.2.2⟩]
        · rw [if_neg h, if_neg (fun h' => h ⟨by omega, by omega, h'.2.2⟩)]
    · rw [if_neg hp]
      by_cases h : x + 1 ≤ y ∧ y < x + 1 + d ∧ p y = true
      · rw [if_pos h, if_pos ⟨by omega, by omega, h.2.2⟩]
      · rw [if_neg h, if_neg (fun h' => h ⟨by
          have : x ≠ y := fun e => hp (by rw [e]; exact h'.2.2)
          omega, by omega, h'.2.2⟩)]
theorem rd_map (all : Bool) (l : List S47) (y : Int) (y0 : 0 ≤ y) (y1 : y < l.length) : rd_T47 (l.map (resetC all)) y = resetC all (rd_T47 l y) := by
  obtain ⟨m, rfl⟩ := Int.eq_ofNat_of_zero_le y0
  rw [rd_nat l m (by omega), rd_nat _ m (by rw [List.length_map]; omega), List.getElem_map]
/-- all input erased -/
def allI (l : List S47) : List S47 := sweep (openI l) (fun c => charC c 0) l.length 0 (l.map (resetC false))
theorem allI_length (l : List S47) : (allI l).length = l.length := by unfold allI; rw [sweep_length, List.length_map]
/-- the first open cell -/
def homeI (l : List S47) : Int := mx 0 (nextI l ((l.length : Int) - 1))
def setM (b : Bool) (c : S47) : S47 := ⟨c.f0, ⟨c.f1.f0, c.f1.f1, c.f1.f2, b⟩, c.f2⟩
theorem okC_setM (b : Bool) (x : S47) (hf : x.f0 = true) (h : okC x = true) : okC (setM b x) = true := by
  unfold okC at h ⊢
  rw [if_pos hf] at h
  rw [if_pos (show (setM b x).f0 = true from hf)]; exact h
theorem reset_plain {c : S47} {v : Int} (h : c = newC v) (all : Bool) : resetC all c = c := by
  subst h; unfold resetC newC; split <;> rfl
theorem reset_setM (all : Bool) (c : S47) : ∃ b, resetC all c = setM b c := by
  unfold resetC; split
  · exact ⟨false, rfl⟩
  · exact ⟨c.f1.f3, rfl⟩
theorem fclean_loop (r c : Int) (l : List S47) (cu : Int) (lo ins : Bool) (hn : l.length ≤ 16383) (hp : 0 < l.length) (r' c' cu' : Int) (lo' ins' : Bool) : ∀ (d K : Nat) (x : Int) (a : List S47), 0 ≤ x → x + d = l.length → a.length = l.length → d < K →
    host_clean.l0 K (l.length : Int) x r c l cu lo ins r' c' a cu' lo' ins' = some (r', c', sweep (openI l) (fun c => charC c 0) d x a, homeI l, lo', ins')
  | 0, K, x, a, x0, hx, ha, hk => by
    obtain ⟨K, rfl⟩ : ∃ m, K = m + 1 := ⟨K - 1, by omega⟩
    rw [host_clean.l0, if_neg (by omega), w64 (by omega), fNext_eq r c l cu lo ins _ hn (by omega) (by omega), Option.bind_some]; rfl
  | d + 1, K, x, a, x0, hx, ha, hk => by
    obtain ⟨K, rfl⟩ : ∃ m, K = m + 1 := ⟨K - 1, by omega⟩
    rw [host_clean.l0, if_pos (by omega), fOpen_eq r c l cu lo ins x hn x0 (by omega), Option.bind_some, w64 (by omega)]
    unfold sweep
    by_cases h : openI l x = true
    · rw [if_pos h, if_pos x0, if_pos (by omega), if_pos h]
      exact fclean_loop r c l cu lo ins hn hp r' c' cu' lo' ins' d K (x + 1) _ (by omega) (by omega) (by rw [List.length_set]; exact ha) (by omega)
    · rw [if_neg h, if_neg h]
      exact fclean_loop r c l cu lo ins hn hp r' c' cu' lo' ins' d K (x + 1) a (by omega) (by omega) ha (by omega)
theorem fclean_eq (K : Nat) (r c : Int) (l : List S47) (cu : Int) (lo ins : Bool) (hn : l.length ≤ 16383) (hp : 0 < l.length) (hk : l.length < K) : host_clean.f K r c l cu lo ins = some (r, c, allI l, homeI l, lo, ins) := by
  unfold host_clean.f host_Reset.f
  rw [if_pos hn, Option.bind_some]
  exact fclean_loop r c l cu lo ins hn hp r c cu lo ins l.length K 0 _ (by omega) (by omega) (by rw [List.length_map]) hk
end Go.Proofs.YtphboakgkmjpbaaGreatDoor.P
namespace Go.Proofs.YtphboakgkmjpbaaGreatDoor.P
open Go.RowKit Go.Proofs.YtphboakgkmjpbaaGreatDoorW.PrintWords Go.Proofs.YtphboakgkmjpbaaGreatDoorW.PrintLast
set_option linter.unusedVariables false
set_option linter.unusedSimpArgs false
theorem good_of {ls : List S49} (wo : ∀ o ∈ ls, wfO o) (h : ∀ o ∈ ls, o.f1.length ≤ 9000) : ∀ o ∈ ls, GoodO o := fun o ho => ⟨fun x hx => (wf_u8 ((wo o ho).1 x hx)).2, (wf_u8 (wo o ho).2).2, h o ho⟩
def eraseL (cmd : Int) (l : List S47) : List S47 := if cmd = 245 then List.replicate l.length z47 else l
def baseL (cmd : Int) (rs : Bool) (l : List S47) : List S47 := if rs = true then (eraseL cmd l).map (resetC true) else eraseL cmd l
def baseC (cmd cu : Int) : Int := if cmd = 245 then 0 else cu
/-- the screen behind a command that writes -/
def hostS (l : List S47) (cu cmd : Int) (rs : Bool) (ls : List S49) : St := allT ls (baseL cmd rs l, baseC cmd cu, baseC cmd cu)
theorem okC_reset {x : S47} (h : okC x = true) : okC (resetC true x) = true := by
  obtain ⟨z0, ⟨z1, z2, z3, z4⟩, z5⟩ := x
  cases z0 with
  | true =>
    obtain ⟨b, hb⟩ := reset_setM true (⟨true, ⟨z1, z2, z3, z4⟩, z5⟩ : S47)
    rw [hb]; exact okC_setM b _ rfl h
  | false =>
    have h2 := h
    unfold okC at h2
    simp only [Bool.false_eq_true, if_false, Bool.and_eq_true, Bool.not_eq_true', beq_iff_eq] at h2
    obtain ⟨⟨e1, e2, e3, e4⟩, _⟩ := h2
    subst e1 e2 e3 e4
    show okC (resetC true (newC z5)) = true
    rw [reset_plain (v := z5) rfl true]; exact h
theorem eraseL_len (cmd : Int) (l : List S47) : (eraseL cmd l).length = l.length := by unfold eraseL; split <;> simp
theorem baseL_len (cmd : Int) (rs : Bool) (l : List S47) : (baseL cmd rs l).length = l.length := by unfold baseL; split <;> simp [eraseL_len]
theorem base_right {r c : Int} {l : List S47} {cu : Int} (h : RightI r c l cu) (cmd : Int) (rs : Bool) : RightI r c (baseL cmd rs l) (baseC cmd cu) := by
  have hp : 0 < l.length := by have := h.cu0; have := h.cu1; omega
  have oe : ∀ x ∈ eraseL cmd l, okC x = true := by
    unfold eraseL
    split
    · intro x hx; rw [(List.mem_replicate.1 hx).2]; rfl
    · exact h.ok
  refine ⟨h.r1, h.c1, h.r2, h.c2, h.rc, by rw [baseL_len]; exact h.len, ?_, ?_, ?_⟩
  · unfold baseC; split
    · exact Int.le_refl _
    · exact h.cu0
  · rw [baseL_len]; unfold baseC; split
    · omega
    · exact h.cu1
  · unfold baseL
    split
    · intro x hx
      obtain ⟨y, hy, rfl⟩ := List.mem_map.1 hx
      exact okC_reset (oe y hy)
    · exact oe
theorem host_st {r c : Int} {l : List S47} {cu : Int} (h : RightI r c l cu) (cmd : Int) (rs : Bool) {ls : List S49} (hw : ∀ o ∈ ls, wrO l.length o = 0) : StI r c l.length (hostS l cu cmd rs ls) := by
  have hr := base_right h cmd rs
  refine StI.allT (n := l.length) (ls := ls) (s := (baseL cmd rs l, baseC cmd cu, baseC cmd cu)) ⟨baseL_len cmd rs l, hr, hr.cu0, ?_⟩ hw
  have := hr.cu1
  rw [baseL_len] at this; exact this
theorem fCopy2_eq (r c : Int) (l : List S47) (cu : Int) (lo ins : Bool) (hn : l.length ≤ 16383) : grid_Copy.f r c l cu lo ins = some (r, c, l, cu, lo, ins) := by
  unfold grid_Copy.f slices_Clone_shutter_api_Cell_shutter_api_Cell.f
  rw [if_pos hn]; rfl
section
variable (K : Nat) (r c : Int) (l : List S47) (cu : Int) (lo ins : Bool) (cmd : Int) (a u rs : Bool) (ls : List S49)
theorem fHost_j1 (hr : RightI r c l cu) (hn : l.length ≤ 200) (hl : ls.length ≤ 60) (hg : ∀ o ∈ ls, GoodO o) (hw : ∀ o ∈ ls, wrO l.length o = 0) (hK : 220 < K) (r0 c0 : Int) (l0 : List S47) (cu0 : Int) (lo0 ins0 : Bool) (cmd0 : Int) (a0 rs0 : Bool) :
    host_Do.j1 K r0 c0 l0 cu0 lo0 ins0 cmd0 a0 u rs0 ls r c (baseL cmd rs l) (baseC cmd cu) lo ins = some (r, c, (hostS l cu cmd rs ls).1, (hostS l cu cmd rs ls).2.1, lo && !u, ins && !u, none, []) := by
  obtain ⟨K, rfl⟩ : ∃ z, K = z + 1 := ⟨K - 1, by omega⟩
  have hb := base_right hr cmd rs
  have hbl := baseL_len cmd rs l
  rw [host_Do.j1, fAll_eq K (by omega) r c (baseL cmd rs l) (baseC cmd cu) lo ins (baseC cmd cu) ls hb (by omega) hb.cu0 hb.cu1 (by omega) (by omega) hg, Option.bind_some, none_bad (by rw [hbl]; exact hw)]
  cases u with
  | true => simp only [Bool.not_true, Bool.and_false]; rfl
  | false => simp only [Bool.not_false, Bool.and_true]; rfl
theorem fHost_eq (hr : RightI r c l cu) (hn : l.length ≤ 200) (hl : ls.length ≤ 60) (hg : ∀ o ∈ ls, GoodO o) (hK : 240 < K) :
    (∀ e s, writeW cmd a u rs ls l.length = some (e, s) → host_Do.f K r c l cu lo ins cmd a u rs ls = some (r, c, l, cu, lo, ins, some e, s)) ∧
    (writeW cmd a u rs ls l.length = none → writesI cmd = true → host_Do.f K r c l cu lo ins cmd a u rs ls = some (r, c, (hostS l cu cmd rs ls).1, (hostS l cu cmd rs ls).2.1, lo && !u, ins && !u, none, [])) ∧
    (writeW cmd a u rs ls l.length = none → cmd = 111 → host_Do.f K r c l cu lo ins cmd a u rs ls = some (r, c, allI l, homeI l, false, false, none, [])) ∧
    (writeW cmd a u rs ls l.length = none → writesI cmd = false → cmd ≠ 111 → host_Do.f K r c l cu lo ins cmd a u rs ls = some (r, c, l, cu, lo, ins, none, [])) := by
  have hp : 0 < l.length := by have := hr.cu0; have := hr.cu1; omega
  obtain ⟨w1, w2⟩ := fWrite_eq K cmd a u rs ls (l.length : Int) (by omega) hl hg (by omega)
  have hsz : grid_Size.f r c l cu lo ins = some (l.length : Int) := rfl
  refine ⟨fun e s h => ?_, fun h hc => ?_, fun h hc => ?_, fun h hc h1 => ?_⟩
  · unfold host_Do.f
    rw [hsz, Option.bind_some, w1 e s h, Option.bind_some]; rfl
  · obtain ⟨row, hrow⟩ := w2 h
    unfold host_Do.f
    rw [hsz, Option.bind_some, hrow, Option.bind_some]
    refine (if_pos rfl).trans ?_
    rw [fCopy2_eq r c l cu lo ins (by omega), Option.bind_some]
    have hw := write_orders h hc
    obtain ⟨K, rfl⟩ : ∃ z, K = z + 1 := ⟨K - 1, by omega⟩
    have j0 : ∀ (r0 c0 : Int) (l0 : List S47) (cu0 : Int) (lo0 ins0 : Bool) (cmd0 : Int), host_Do.j0 (K + 1) r0 c0 l0 cu0 lo0 ins0 cmd0 a u rs ls r c (eraseL cmd l) (baseC cmd cu) lo ins = some (r, c, (hostS l cu cmd rs ls).1, (hostS l cu cmd rs ls).2.1, lo && !u, ins && !u, none, []) := fun r0 c0 l0 cu0 lo0 ins0 cmd0 => by
      have J := fHost_j1 K r c l cu lo ins cmd u rs ls hr hn hl hg hw (by omega) r0 c0 l0 cu0 lo0 ins0 cmd0 a rs
      rw [host_Do.j0]
      cases rs with
      | true =>
        refine (if_pos rfl).trans ?_
        unfold host_Reset.f
        rw [if_pos (by rw [eraseL_len]; omega), Option.bind_some]
        exact J
      | false => exact (if_neg (by decide)).trans J
    by_cases h5 : cmd = 245
    · refine (if_pos h5).trans ((if_pos (by show (0 : Int) < (l.length : Int); omega)).trans ?_)
      have := j0 r c l cu lo ins cmd
      unfold eraseL baseC at this
      rw [if_pos h5, if_pos h5] at this
      exact this
    · refine (if_neg h5).trans ?_
      have h1 : cmd = 241 := by
        unfold writesI at hc
        simp only [Bool.or_eq_true, beq_iff_eq] at hc
        rcases hc with h | h
        · exact h
        · exact absurd h h5
      refine (if_pos h1).trans ?_
      have := j0 r c l cu lo ins cmd
      unfold eraseL baseC at this
      rw [if_neg h5, if_neg h5] at this
      exact this
  · obtain ⟨row, hrow⟩ := w2 h
    unfold host_Do.f
    rw [hsz, Option.bind_some, hrow, Option.bind_some]
    refine (if_pos rfl).trans ?_
    rw [fCopy2_eq r c l cu lo ins (by omega), Option.bind_some]
    refine (if_neg (by omega)).trans ((if_neg (by omega)).trans ((if_pos hc).trans ?_))
    show ((host_clean.f K r c l cu lo ins).bind _) = _
    rw [fclean_eq K r c l cu lo ins (by omega) hp (by omega), Option.bind_some]; rfl
  · obtain ⟨row, hrow⟩ := w2 h
    unfold host_Do.f
    rw [hsz, Option.bind_some, hrow, Option.bind_some]
    refine (if_pos rfl).trans ?_
    rw [fCopy2_eq r c l cu lo ins (by omega), Option.bind_some]
    unfold writesI at hc
    simp only [Bool.or_eq_false_iff, beq_eq_false_iff_ne] at hc
    exact (if_neg hc.2).trans ((if_neg hc.1).trans (if_neg h1))
end
end Go.Proofs.YtphboakgkmjpbaaGreatDoor.P
namespace Go.Proofs.YtphboakgkmjpbaaGreatDoor.P
open Go.RowKit Go.Proofs.YtphboakgkmjpbaaGreatDoorW.PrintWords Go.Proofs.YtphboakgkmjpbaaGreatDoorW.PrintLast
set_option linter.unusedVariables false
set_option linter.unusedSimpArgs false
theorem rP3_all : ∀ n : Fin 64, (shutterref03_Put.f (n.val : Int)).isSome = true := by decide +kernel
theorem rP3 (x : Int) (h0 : 0 ≤ x) (h1 : x < 64) : ∃ y, shutterref03_Put.f x = some y := by
  obtain ⟨m, rfl⟩ := Int.eq_ofNat_of_zero_le h0
  exact Option.isSome_iff_exists.mp (rP3_all ⟨m, by omega⟩)
theorem rwcc8 : ∀ a b c : Bool, (shutterref05_PutWcc.f 8 a b c).isSome = true := by decide +kernel
theorem rwcc_some (K : Nat) (hK : 8 ≤ K) (a b c : Bool) : ∃ n, shutterref05_PutWcc.f K a b c = some n := by
  obtain ⟨j, rfl⟩ : ∃ j, K = 8 + j := ⟨K - 8, by omega⟩
  clear hK
  induction j with
  | zero => exact Option.isSome_iff_exists.mp (rwcc8 a b c)
  | succ j ih => obtain ⟨x, hx⟩ := ih; exact ⟨x, shutterref05_PutWcc.mono _ _ _ _ _ hx⟩
theorem rput8 : ∀ a b c : Bool, ∀ n : Fin 4, (shutterref05_Put.f 8 a b (n.val : Int) c).isSome = true := by decide +kernel
theorem rput_some (K : Nat) (hK : 8 ≤ K) (a b : Bool) (s : Int) (c : Bool) (h0 : 0 ≤ s) (h1 : s ≤ 3) : ∃ n, shutterref05_Put.f K a b s c = some n := by
  obtain ⟨m, rfl⟩ := Int.eq_ofNat_of_zero_le h0
  obtain ⟨j, rfl⟩ : ∃ j, K = 8 + j := ⟨K - 8, by omega⟩
  clear hK
  induction j with
  | zero => exact Option.isSome_iff_exists.mp (rput8 a b c ⟨m, by omega⟩)
  | succ j ih => obtain ⟨x, hx⟩ := ih; exact ⟨x, shutterref05_Put.mono _ _ _ _ _ _ hx⟩
theorem raddr_some (x size : Int) (hs : size ≤ 4096) (h0 : 0 ≤ x) (h1 : x < size) : ∃ y z, shutterref04_Put.f x size = some [y, z] := by
  have e1 : Int.tdiv x 64 = x / 64 := Int.tdiv_eq_ediv_of_nonneg h0
  have e2 : Int.tmod x 64 = x % 64 := Int.tmod_eq_emod_of_nonneg h0
  obtain ⟨y, hy⟩ := rP3 (x / 64) (by omega) (by omega)
  obtain ⟨z, hz⟩ := rP3 (x % 64) (by omega) (by omega)
  refine ⟨y, z, ?_⟩
  unfold shutterref04_Put.f
  rw [if_neg (by omega), e1, e2, w64 (by omega), hy, Option.bind_some, hz, Option.bind_some]
/-- a right order's bytes: as many as the program's -/
theorem rPut_eq (K : Nat) (hK : 8 ≤ K) (size : Int) (hs : size ≤ 4096) (o : S49) (hg : GoodO o) (hw : wrO size o = 0) :
    ∃ row, shutterref07_Put.f K o.f0 o.f1 o.f2.f0 o.f2.f1 o.f2.f2 o.f2.f3 o.f3 o.f4 size = some row ∧ row.length = lenO o := by
  obtain ⟨htx, hch, hl⟩ := hg
  obtain ⟨k0, k1, hT, hS, hC, hA⟩ := wrong_parts hw
  unfold shutterref07_Put.f lenO
  by_cases h1 : o.f0 = 1
  · refine ⟨[] ++ o.f1, (if_pos h1).trans (if_pos (by simp only [List.length_nil]; omega)), by rw [if_pos h1]; simp⟩
  by_cases h2 : o.f0 = 2
  · obtain ⟨s0, s1⟩ := hS h2
    obtain ⟨x, hx⟩ := rput_some K hK o.f2.f0 o.f2.f1 o.f2.f2 o.f2.f3 s0 s1
    exact ⟨_, (if_neg h1).trans ((if_pos h2).trans (by rw [hx, Option.bind_some])), by rw [if_neg h1, if_pos h2]; rfl⟩
  by_cases h4 : o.f0 = 4
  · exact ⟨_, (if_neg h1).trans ((if_neg h2).trans (if_pos h4)), by rw [if_neg h1, if_neg h2, if_pos (.inl h4)]; rfl⟩
  by_cases h5 : o.f0 = 5
  · exact ⟨_, (if_neg h1).trans ((if_neg h2).trans ((if_neg h4).trans (if_pos h5))), by rw [if_neg h1, if_neg h2, if_pos (.inr h5)]; rfl⟩
  obtain ⟨a0, a1⟩ := hA (by omega)
  obtain ⟨y, z, hyz⟩ := raddr_some o.f3 size hs a0 a1
  have h45 : ¬ (o.f0 = 4 ∨ o.f0 = 5) := by omega
  by_cases h3 : o.f0 = 3
  · refine ⟨[17] ++ [y, z], (if_neg h1).trans ((if_neg h2).trans ((if_neg h4).trans ((if_neg h5).trans ((if_pos h3).trans ?_)))), by rw [if_neg h1, if_neg h2, if_neg h45, if_neg (by omega)]; rfl⟩
    rw [Option.bind_some, hyz, Option.bind_some]; exact if_pos (by simp)
  by_cases h7 : o.f0 = 7
  · refine ⟨[18] ++ [y, z], (if_neg h1).trans ((if_neg h2).trans ((if_neg h4).trans ((if_neg h5).trans ((if_neg h3).trans ((if_pos h7).trans ?_))))), by rw [if_neg h1, if_neg h2, if_neg h45, if_neg (by omega)]; rfl⟩
    rw [Option.bind_some, hyz, Option.bind_some]; exact if_pos (by simp)
  · have h6 : o.f0 = 6 := by omega
    refine ⟨([60] ++ [y, z]) ++ [o.f4], (if_neg h1).trans ((if_neg h2).trans ((if_neg h4).trans ((if_neg h5).trans ((if_neg h3).trans ((if_neg h7).trans ?_))))), by rw [if_neg h1, if_neg h2, if_neg h45, if_pos h6]; rfl⟩
    rw [Option.bind_some, hyz, Option.bind_some]
    refine (if_pos (by simp)).trans ?_
    rw [Option.bind_some, Option.bind_some]; exact if_pos (by simp)
theorem rwrite_loop (size : Int) (hs : size ≤ 4096) (ls : List S49) (hl : ls.length ≤ 60) (hg : ∀ o ∈ ls, GoodO o) (cmd : Int) (a u r : Bool) : ∀ (d K i : Nat) (out : List Int), d + i = ls.length → out.length ≤ 9000 * i + 2 → d + d + 9020 < K →
    (∀ j n, badS size (ahead ls i) (ls.drop i) i = some (j, n) → shutterref08_Write.l0 K size out i cmd a u r ls = some ([], n, j)) ∧
    (badS size (ahead ls i) (ls.drop i) i = none → ∃ row : List Int, row.length = out.length + lenS (ls.drop i) ∧ shutterref08_Write.l0 K size out i cmd a u r ls = if (row.length : Int) > 8192 then some ([], 6, -1) else some (row, 0, -1))
  | 0, K, i, out, hd, ho, hK => by
    obtain ⟨K, rfl⟩ : ∃ z, K = z + 1 := ⟨K - 1, by omega⟩
    rw [List.drop_eq_nil_of_le (by omega), shutterref08_Write.l0, if_neg (by omega)]
    exact ⟨fun j n h => by simp [badS] at h, fun _ => ⟨out, by simp [lenS], rfl⟩⟩
  | d + 1, K, i, out, hd, ho, hK => by
    obtain ⟨K, rfl⟩ : ∃ z, K = z + 2 := ⟨K - 2, by omega⟩
    have hi : i < ls.length := by omega
    obtain ⟨g1, g2, g3⟩ := hg _ (List.getElem_mem hi)
    have hO := lenO_le g3
    have hiI : (i : Int) < (ls.length : Int) := by omega
    have hi0 : (0 : Int) ≤ (i : Int) := by omega
    have hW : shutterref07_Wrong.f (K + 1) ls[i].f0 ls[i].f1 ls[i].f2.f0 ls[i].f2.f1 ls[i].f2.f2 ls[i].f2.f3 ls[i].f3 ls[i].f4 size = some (wrO size ls[i]) := rWrong_eq (K + 1) _ _ _ _ _ _ _ _ _ (by omega) (by omega)
    rw [List.drop_eq_getElem_cons hi, badS]
    by_cases hw : wrO size ls[i] = 0
    · obtain ⟨row, hrow, hlen⟩ := rPut_eq K (by omega) size hs ls[i] ⟨g1, g2, g3⟩ hw
      have hX : shutterref08_Write.l0 (K + 2) size out i cmd a u r ls = shutterref08_Write.j1 (K + 1) size out i 0 (ahead ls i && ls[i].f0 == 1) cmd a u r ls := by
        rw [shutterref08_Write.l0, rd_ord ls i hi]
        refine (if_pos hiI).trans ((if_pos hi0).trans ?_)
        rw [hW, Option.bind_some, hw]
        refine (if_pos rfl).trans ?_
        by_cases h0 : 0 < i
        · have h0I : (i : Int) > 0 := by omega
          refine (if_pos h0I).trans ?_
          by_cases h1 : ls[i].f0 = 1
          · have hw1 : wrap64 ((i : Int) - 1) = (i : Int) - 1 := w64 (by omega)
            refine (if_pos h1).trans ?_
            rw [hw1]
            have h2 : (0 : Int) ≤ (i : Int) - 1 := by omega
            have h3 : (i : Int) - 1 < (ls.length : Int) := by omega
            refine (if_pos h2).trans ((if_pos h3).trans ?_)
            unfold ahead
            rw [decide_eq_true h0, h1, Bool.true_and]
            simp
          · refine (if_neg h1).trans ?_
            have : (ls[i].f0 == 1) = false := by simp [h1]
            rw [this, Bool.and_false]
        · have h0I : ¬ (i : Int) > 0 := by omega
          refine (if_neg h0I).trans ?_
          unfold ahead
          rw [decide_eq_false h0, Bool.false_and, Bool.false_and]
      rw [hX, if_neg (show ¬ wrO size ls[i] ≠ 0 by omega)]
      cases hf : (ahead ls i && ls[i].f0 == 1) with
      | true =>
        rw [if_pos rfl, shutterref08_Write.j1, if_pos rfl, if_neg (by decide)]
        refine ⟨fun j n h => ?_, fun h => by cases h⟩
        simp only [Option.some.injEq, Prod.mk.injEq] at h
        obtain ⟨rfl, rfl⟩ := h
        rfl
      | false =>
        have ih := rwrite_loop size hs ls hl hg cmd a u r d K (i + 1) (out ++ row) (by omega) (by rw [List.length_append]; omega) (by omega)
        have ea : ahead ls (i + 1) = (ls[i].f0 == 1) := by
          unfold ahead
          rw [decide_eq_true (by omega), show (((i + 1 : Nat) : Int) - 1) = (i : Int) by omega, rd_ord ls i hi]; rfl
        rw [ea] at ih
        obtain ⟨ih1, ih2⟩ := ih
        have hJ : shutterref08_Write.j1 (K + 1) size out i 0 false cmd a u r ls = shutterref08_Write.l0 K size (out ++ row) ((i + 1 : Nat) : Int) cmd a u r ls := by
          rw [shutterref08_Write.j1, rd_ord ls i hi, w64 (by omega)]
          have hlt : out.length + row.length < 140737488355328 := by omega
          refine (if_neg (by decide)).trans ((if_pos rfl).trans ((if_pos hi0).trans ((if_pos hiI).trans ?_)))
          rw [hrow, Option.bind_some]
          exact if_pos hlt
        rw [if_neg (by decide), hJ]
        refine ⟨ih1, fun h => ?_⟩
        obtain ⟨row', h1, h2⟩ := ih2 h
        exact ⟨row', by rw [h1, List.length_append, lenS]; omega, h2⟩
    · have hX : shutterref08_Write.l0 (K + 2) size out i cmd a u r ls = some ([], wrO size ls[i], (i : Int)) := by
        rw [shutterref08_Write.l0, rd_ord ls i hi]
        refine (if_pos hiI).trans ((if_pos hi0).trans ?_)
        rw [hW, Option.bind_some]
        refine (if_neg hw).trans ?_
        rw [shutterref08_Write.j1]
        exact (if_neg (by decide)).trans (if_neg hw)
      rw [hX, if_pos hw]
      refine ⟨fun j n h => ?_, fun h => by cases h⟩
      simp only [Option.some.injEq, Prod.mk.injEq] at h
      obtain ⟨rfl, rfl⟩ := h
      rfl
theorem rwrites_eq (cmd : Int) : shutterref08_Writes.f cmd = some (writesI cmd) := by
  unfold shutterref08_Writes.f writesI
  by_cases h1 : cmd = 241
  · subst h1; rfl
  · rw [if_neg h1]; simp [h1]
theorem rknown_eq (cmd : Int) : shutterref08_Known.f cmd = some (knownI cmd) := by
  unfold shutterref08_Known.f
  rw [rwrites_eq, Option.bind_some]
  unfold writesI knownI
  by_cases h1 : cmd = 241
  · subst h1; rfl
  by_cases h2 : cmd = 245
  · subst h2; rfl
  rw [if_neg (by simp [h1, h2])]
  by_cases h3 : cmd = 111
  · subst h3; rfl
  rw [if_neg h3]
  by_cases h4 : cmd = 242
  · subst h4; rfl
  rw [if_neg h4, beq_eq_false_iff_ne.mpr h1, beq_eq_false_iff_ne.mpr h2, beq_eq_false_iff_ne.mpr h3, beq_eq_false_iff_ne.mpr h4]; rfl
/-- what an error's number and place are, in the document's words -/
def whyW : Option (Er × List S177) → Int × Int
  | none => (0, -1)
  | some (.num n, _) => (n, -1)
  | some (.spot, [x]) => (x.f1, x.f0)
  | some (.spot, _) => (0, 0)
theorem rWrite_eq (K : Nat) (cmd : Int) (a u r : Bool) (ls : List S49) (size : Int) (hs : size ≤ 4096) (hl : ls.length ≤ 60) (hg : ∀ o ∈ ls, GoodO o) (hK : 9200 < K) :
    ∃ row, shutterref08_Write.f K cmd a u r ls size = some (row, (whyW (writeW cmd a u r ls size)).1, (whyW (writeW cmd a u r ls size)).2) := by
  unfold shutterref08_Write.f writeW
  rw [rknown_eq, Option.bind_some]
  cases hk : knownI cmd with
  | false => exact ⟨_, rfl⟩
  | true =>
    simp only [if_true, if_neg (show ¬ (true = false) by decide), Option.bind_some]
    rw [rwrites_eq, Option.bind_some]
    cases hw : writesI cmd with
    | false =>
      simp only [if_true, if_neg (show ¬ (false = true) by decide)]
      cases hb : (a || (u || r)) with
      | true => exact ⟨[], by simp [whyW]⟩
      | false =>
        simp only [if_neg (show ¬ (false = true) by decide)]
        by_cases h0 : 0 < ls.length
        · exact ⟨[], by rw [if_pos (show (ls.length : Int) > 0 by omega), if_pos (.inr h0)]; rfl⟩
        · exact ⟨_, by rw [if_neg (show ¬ (ls.length : Int) > 0 by omega), if_neg (by simp only [Bool.false_eq_true, false_or]; exact h0)]; rfl⟩
    | true =>
      simp only [if_true, if_neg (show ¬ (true = false) by decide)]
      obtain ⟨w, hw'⟩ := rwcc_some K (by omega) a u r
      rw [hw', Option.bind_some]
      have e0 : ahead ls 0 = false := rfl
      obtain ⟨b1, b2⟩ := rwrite_loop size hs ls hl hg cmd a u r ls.length K 0 ([cmd % 256] ++ [w]) (by omega) (by simp) (by omega)
      rw [e0, List.drop_zero] at b1 b2
      have hlt : ([cmd % 256] : List Int).length < 140737488355328 := by simp
      cases hb : badS size false ls 0 with
      | some p =>
        obtain ⟨j, n⟩ := p
        exact ⟨[], by rw [if_pos hlt]; exact b1 j n hb⟩
      | none =>
        obtain ⟨row, hr, h2⟩ := b2 hb
        have hl2 : row.length = 2 + lenS ls := by rw [hr]; simp
        by_cases hL : 8192 < 2 + lenS ls
        · exact ⟨[], by rw [if_pos hlt]; refine h2.trans ?_; rw [if_pos (show (row.length : Int) > 8192 by omega)]; simp only [if_pos hL]; rfl⟩
        · exact ⟨row, by rw [if_pos hlt]; refine h2.trans ?_; rw [if_neg (show ¬ (row.length : Int) > 8192 by omega)]; simp only [if_neg hL]; rfl⟩
theorem badS_ne {size : Int} : ∀ {ls : List S49} {p : Bool} {i j n : Int}, badS size p ls i = some (j, n) → n ≠ 0
  | [], _, _, _, _, h => by simp [badS] at h
  | o :: t, p, i, j, n, h => by
    rw [badS] at h
    by_cases hw : wrO size o = 0
    · rw [if_neg (by omega)] at h
      by_cases hb : (p && o.f0 == 1) = true
      · rw [if_pos hb] at h; simp only [Option.some.injEq, Prod.mk.injEq] at h; omega
      · rw [if_neg hb] at h; exact badS_ne h
    · rw [if_pos hw] at h; simp only [Option.some.injEq, Prod.mk.injEq] at h; omega
/-- an error is one: its number is not 0; and it is told with a place, or is a number alone -/
theorem writeW_some {cmd : Int} {a u r : Bool} {ls : List S49} {size : Int} {p : Er × List S177} (h : writeW cmd a u r ls size = some p) :
    (whyW (some p)).1 ≠ 0 ∧ ((∃ n, p.1 = .num n) ∨ ∃ x, p = (.spot, [x])) := by
  unfold writeW at h
  by_cases hk : knownI cmd = false
  · rw [if_pos hk] at h; obtain rfl := Option.some.inj h; exact ⟨by decide, .inl ⟨5, rfl⟩⟩
  rw [if_neg hk] at h
  by_cases hw : writesI cmd = false
  · rw [if_pos hw] at h
    by_cases hb : (a || (u || r)) = true ∨ 0 < ls.length
    · rw [if_pos hb] at h; obtain rfl := Option.some.inj h; exact ⟨by decide, .inl ⟨1, rfl⟩⟩
    · rw [if_neg hb] at h; cases h
  rw [if_neg hw] at h
  cases hb : badS size false ls 0 with
  | some q =>
    obtain ⟨j, n⟩ := q
    rw [hb] at h; obtain rfl := Option.some.inj h
    exact ⟨badS_ne hb, .inr ⟨_, rfl⟩⟩
  | none =>
    rw [hb] at h
    by_cases hL : 8192 < 2 + lenS ls
    · simp only [if_pos hL] at h; obtain rfl := Option.some.inj h; exact ⟨by decide, .inl ⟨6, rfl⟩⟩
    · simp only [if_neg hL] at h; cases h
end Go.Proofs.YtphboakgkmjpbaaGreatDoor.P
namespace Go.Proofs.YtphboakgkmjpbaaGreatDoor.P
open Go.RowKit Go.Proofs.YtphboakgkmjpbaaGreatDoorW.PrintWords Go.Proofs.YtphboakgkmjpbaaGreatDoorW.PrintLast
set_option linter.unusedVariables false
set_option linter.unusedSimpArgs false

theorem cell_ext {x y : S47} (h0 : x.f0 = y.f0) (h1 : x.f1.f0 = y.f1.f0) (h2 : x.f1.f1 = y.f1.f1) (h3 : x.f1.f2 = y.f1.f2) (h4 : x.f1.f3 = y.f1.f3) (h5 : x.f2 = y.f2) : x = y := by
  obtain ⟨x0, ⟨x1, x2, x3, x4⟩, x5⟩ := x
  obtain ⟨y0, ⟨y1, y2, y3, y4⟩, y5⟩ := y
  simp only at h0 h1 h2 h3 h4 h5
  subst h0 h1 h2 h3 h4 h5
  rfl
theorem rSame_loop (r c : Int) (l : List S47) (cu : Int) (lo ins : Bool) (r' c' : Int) (l' : List S47) (cu' : Int) (lo' ins' : Bool) (hn : l.length ≤ 16383) (hl : l.length = l'.length) : ∀ (d k i : Nat), d + i = l.length → d < k → ∃ b, shutterref10_Same.l0 k i r c l cu lo ins r' c' l' cu' lo' ins' = some b ∧ (b = true ↔ l.drop i = l'.drop i)
  | 0, k, i, hd, hk => by
    obtain ⟨k, rfl⟩ : ∃ m, k = m + 1 := ⟨k - 1, by omega⟩
    rw [shutterref10_Same.l0, if_neg (by omega), List.drop_eq_nil_of_le (by omega), List.drop_eq_nil_of_le (by omega)]
    exact ⟨true, rfl, by simp⟩
  | d + 1, k, i, hd, hk => by
    obtain ⟨k, rfl⟩ : ∃ m, k = m + 1 := ⟨k - 1, by omega⟩
    rw [shutterref10_Same.l0, if_pos (by omega), if_pos (by omega), if_pos (by omega), rd_nat l i (by omega), rd_nat l' i (by omega), List.drop_eq_getElem_cons (by omega : i < l.length), List.drop_eq_getElem_cons (by omega : i < l'.length)]
    generalize l[i]'(by omega) = x
    generalize l'[i]'(by omega) = y
    by_cases h : (!(x.f0 == y.f0) || ((!(x.f1.f0 == y.f1.f0) || (!(x.f1.f1 == y.f1.f1) || (!(x.f1.f2 == y.f1.f2) || (!(x.f1.f3 == y.f1.f3))))) || (!(x.f2 == y.f2)))) = true
    · rw [if_pos h]
      refine ⟨false, rfl, ?_⟩
      simp only [Bool.false_eq_true, false_iff]
      intro e
      obtain rfl := (List.cons.inj e).1
      simp at h
    · rw [if_neg h, w64 (by omega)]
      simp only [Bool.or_eq_true, Bool.not_eq_true', beq_eq_false_iff_ne, not_or, Decidable.not_not, ne_eq] at h
      obtain ⟨h0, ⟨h1, h2, h3, h4⟩, h5⟩ := h
      obtain rfl := cell_ext h0 h1 h2 h3 h4 h5
      obtain ⟨b, hb, hi⟩ := rSame_loop r c l cu lo ins r' c' l' cu' lo' ins' hn hl d k (i + 1) (by omega) (by omega)
      refine ⟨b, hb, hi.trans ?_⟩
      constructor
      · intro e; rw [e]
      · intro e; exact (List.cons.inj e).2
theorem rSame_eq (k : Nat) (r c : Int) (l : List S47) (cu : Int) (lo ins : Bool) (r' c' : Int) (l' : List S47) (cu' : Int) (lo' ins' : Bool) (hn : l.length ≤ 16383) (hk : l.length + 1 < k) : ∃ b, shutterref10_Same.f k r c l cu lo ins r' c' l' cu' lo' ins' = some b ∧ (b = true ↔ r = r' ∧ c = c' ∧ l = l' ∧ cu = cu' ∧ lo = lo' ∧ ins = ins') := by
  obtain ⟨k, rfl⟩ : ∃ m, k = m + 1 := ⟨k - 1, by omega⟩
  unfold shutterref10_Same.f
  have jt : shutterref10_Same.j0 (k + 1) true r c l cu lo ins r' c' l' cu' lo' ins' = some false := by rw [shutterref10_Same.j0, if_pos rfl]
  have no : (¬ (r = r' ∧ c = c' ∧ l = l' ∧ cu = cu' ∧ lo = lo' ∧ ins = ins')) → ∃ b, some false = some b ∧ (b = true ↔ r = r' ∧ c = c' ∧ l = l' ∧ cu = cu' ∧ lo = lo' ∧ ins = ins') := fun h => ⟨false, rfl, by simp only [Bool.false_eq_true, false_iff]; exact h⟩
  by_cases h1 : r = r'
  · rw [if_pos h1]
    by_cases h2 : c = c'
    · rw [if_pos h2]
      by_cases h3 : cu = cu'
      · rw [if_pos h3]
        by_cases h4 : lo = lo'
        · rw [if_neg (by simp [h4])]
          by_cases h5 : ins = ins'
          · rw [if_neg (by simp [h5]), shutterref10_Same.j0]
            by_cases h6 : l.length = l'.length
            · rw [if_neg (by simp [h6])]
              obtain ⟨b, hb, hi⟩ := rSame_loop r c l cu lo ins r' c' l' cu' lo' ins' hn h6 l.length k 0 rfl (by omega)
              rw [show ((0 : Nat) : Int) = 0 from rfl] at hb
              rw [hb]
              refine ⟨b, rfl, hi.trans ?_⟩
              rw [List.drop_zero, List.drop_zero]
              exact ⟨fun e => ⟨h1, h2, e, h3, h4, h5⟩, fun e => e.2.2.1⟩
            · rw [if_pos (by simp; omega)]; exact no (fun h => h6 (by rw [h.2.2.1]))
          · rw [if_pos (by simpa using h5), jt]; exact no (fun h => h5 h.2.2.2.2.2)
        · rw [if_pos (by simpa using h4), jt]; exact no (fun h => h4 h.2.2.2.2.1)
      · rw [if_neg h3, jt]; exact no (fun h => h3 h.2.2.2.1)
    · rw [if_neg h2, jt]; exact no (fun h => h2 h.2.1)
  · rw [if_neg h1, jt]; exact no (fun h => h1 h.1)
theorem rSame_self (k : Nat) (r c : Int) (l : List S47) (cu : Int) (lo ins : Bool) (hn : l.length ≤ 16383) (hk : l.length + 1 < k) : shutterref10_Same.f k r c l cu lo ins r c l cu lo ins = some true := by
  obtain ⟨b, hb, hi⟩ := rSame_eq k r c l cu lo ins r c l cu lo ins hn hk
  rw [hb, hi.2 ⟨rfl, rfl, rfl, rfl, rfl, rfl⟩]
theorem rCopy_eq (r c : Int) (l : List S47) (cu : Int) (lo ins : Bool) (hn : l.length ≤ 16383) : shutterref10_Copy.f r c l cu lo ins = some (r, c, l, cu, lo, ins) := by
  unfold shutterref10_Copy.f
  simp only [Option.bind_some, List.length_nil, List.nil_append]
  rw [if_pos (by omega)]

end Go.Proofs.YtphboakgkmjpbaaGreatDoor.P
namespace Go.Proofs.YtphboakgkmjpbaaGreatDoor.P
open Go.RowKit Go.Proofs.YtphboakgkmjpbaaGreatDoorW.PrintWords Go.Proofs.YtphboakgkmjpbaaGreatDoorW.PrintLast
set_option linter.unusedVariables false
set_option linter.unusedSimpArgs false
def unmC (c : S47) : S47 := ⟨c.f0, ⟨c.f1.f0, c.f1.f1, c.f1.f2, false⟩, c.f2⟩
def resP (all : Bool) (l : List S47) (y : Int) : Bool := isF l y && (all || !(rd_T47 l y).f1.f0)
theorem rreset_loop (all : Bool) (r c : Int) (l : List S47) (cu : Int) (lo ins : Bool) (hn : l.length ≤ 16383) (r' c' cu' : Int) (lo' ins' : Bool) : ∀ (d K : Nat) (x : Int) (a : List S47), 0 ≤ x → x + d = l.length → a.length = l.length → d < K →
    shutterref13_Reset.l0 K all x r c l cu lo ins r' c' a cu' lo' ins' = some (r', c', sweep (resP all l) unmC d x a, cu', lo', ins')
  | 0, K, x, a, x0, hx, ha, hk => by
    obtain ⟨K, rfl⟩ : ∃ m, K = m + 1 := ⟨K - 1, by omega⟩
    rw [shutterref13_Reset.l0, if_neg (by omega)]; rfl
  | d + 1, K, x, a, x0, hx, ha, hk => by
    obtain ⟨K, rfl⟩ : ∃ m, K = m + 1 := ⟨K - 1, by omega⟩
    have i1 := rreset_loop all r c l cu lo ins hn r' c' cu' lo' ins' d K (x + 1) (a.set (x : Int).toNat (unmC (rd_T47 a x))) (by omega) (by omega) (by rw [List.length_set]; exact ha) (by omega)
    have i2 := rreset_loop all r c l cu lo ins hn r' c' cu' lo' ins' d K (x + 1) a (by omega) (by omega) ha (by omega)
    rw [shutterref13_Reset.l0, w64 (by omega)]
    refine pos_ (by omega) (pos_ x0 (pos_ (by omega) ?_))
    unfold sweep
    cases hf : isF l x with
    | false =>
      rw [if_neg (show ¬ resP all l x = true by unfold resP; rw [hf]; simp)]
      exact neg_ (by rw [isF_rd, hf]; decide) i2
    | true =>
      refine pos_ ((isF_rd l x).trans hf) ?_
      cases all with
      | true =>
        rw [if_pos (show resP true l x = true by unfold resP; rw [hf]; rfl)]
        exact pos_ rfl i1
      | false =>
        refine neg_ (by decide) ?_
        cases hp : (rd_T47 l x).f1.f0 with
        | true =>
          rw [if_neg (show ¬ resP false l x = true by unfold resP; rw [hf, hp]; simp)]
          exact pos_ rfl i2
        | false =>
          rw [if_pos (show resP false l x = true by unfold resP; rw [hf, hp]; rfl)]
          exact neg_ (by decide) i1
theorem resP_map (all : Bool) (l : List S47) (ok : ∀ x ∈ l, okC x = true) : sweep (resP all l) unmC l.length 0 l = l.map (resetC all) := by
  refine cells_ext (by rw [sweep_length, List.length_map]) fun y y0 y1 => ?_
  rw [sweep_length] at y1
  rw [sweep_rd _ _ l.length 0 l (by omega) (by omega) y y0, rd_map all l y y0 y1]
  cases hf : isF l y with
  | false =>
    rw [if_neg (fun h => by have := h.2.2; unfold resP at this; rw [hf] at this; cases this)]
    have hp := plain_cell ok y y0 y1 hf
    rw [hp]; unfold resetC newC; split <;> rfl
  | true =>
    unfold resetC
    by_cases h : (all || !(rd_T47 l y).f1.f0) = true
    · rw [if_pos h, if_pos ⟨by omega, by omega, by unfold resP; rw [hf, h]; rfl⟩]; rfl
    · rw [if_neg h, if_neg (fun h' => by have := h'.2.2; unfold resP at this; rw [hf, Bool.true_and] at this; exact h this)]
theorem rreset_eq (K : Nat) (r c : Int) (l : List S47) (cu : Int) (lo ins all : Bool) (hn : l.length ≤ 16383) (ok : ∀ x ∈ l, okC x = true) (hk : l.length < K) : shutterref13_Reset.f K r c l cu lo ins all = some (r, c, l.map (resetC all), cu, lo, ins) := by
  unfold shutterref13_Reset.f
  rw [rCopy_eq r c l cu lo ins hn, Option.bind_some, rreset_loop all r c l cu lo ins hn r c cu lo ins l.length K 0 l (by omega) (by omega) rfl hk, resP_map all l ok]
end Go.Proofs.YtphboakgkmjpbaaGreatDoor.P
namespace Go.Proofs.YtphboakgkmjpbaaGreatDoor.P
open Go.RowKit Go.Proofs.YtphboakgkmjpbaaGreatDoorW.PrintWords Go.Proofs.YtphboakgkmjpbaaGreatDoorW.PrintLast
set_option linter.unusedVariables false
set_option linter.unusedSimpArgs false

theorem mod_eq (k : Nat) (x : Int) (n : Nat) (hk : 1 < k) (h0 : 0 < n) (hn : n ≤ 16383) (hx : -(n : Int) ≤ x) (hx1 : x ≤ 100000) : shutterref11_mod.f k x n = some (x % (n : Int)) := by
  unfold shutterref11_mod.f
  obtain ⟨k, rfl⟩ : ∃ m, k = m + 2 := ⟨k - 2, by omega⟩
  have hz : ¬ (n : Int) = 0 := by omega
  by_cases hx0 : x < 0
  · rw [shutterref11_mod.l0, if_pos hx0, w64 (by omega), shutterref11_mod.l0, if_neg (by omega), if_neg hz, Int.tmod_eq_emod_of_nonneg (by omega), Int.add_emod_right]
  · rw [shutterref11_mod.l0, if_neg hx0, if_neg hz, Int.tmod_eq_emod_of_nonneg (by omega)]

theorem rBegin_loop (r c : Int) (l : List S47) (cu : Int) (lo ins : Bool) (a : Int) (hn : l.length ≤ 16383) (h0 : 0 ≤ a) (h1 : a < l.length) : ∀ (d k i : Nat), d + i = l.length → d + 2 < k → shutterref11_Begin.l0 k a i r c l cu lo ins = some (findW (isF l) (fun j => (a - j) % (l.length : Int)) d i)
  | 0, k, i, hd, hk => by
    obtain ⟨k, rfl⟩ : ∃ m, k = m + 1 := ⟨k - 1, by omega⟩
    rw [shutterref11_Begin.l0, if_neg (by omega)]; rfl
  | d + 1, k, i, hd, hk => by
    obtain ⟨k, rfl⟩ : ∃ m, k = m + 1 := ⟨k - 1, by omega⟩
    rw [shutterref11_Begin.l0, if_pos (by omega), w64 (by omega), mod_eq k _ _ (by omega) (by omega) hn (by omega) (by omega), Option.bind_some, if_pos (Int.emod_nonneg _ (by omega)), if_pos (Int.emod_lt_of_pos _ (by omega)), findW, isF_rd]
    show _ = some (if isF l ((a - (i : Int)) % (l.length : Int)) = true then (a - (i : Int)) % (l.length : Int) else _)
    by_cases hf : isF l ((a - i) % (l.length : Int)) = true
    · rw [if_pos hf, if_pos hf]
    · rw [if_neg hf, if_neg hf, w64 (by omega)]
      exact rBegin_loop r c l cu lo ins a hn h0 h1 d k (i + 1) (by omega) (by omega)
theorem rBegin_eq (k : Nat) (r c : Int) (l : List S47) (cu : Int) (lo ins : Bool) (a : Int) (hn : l.length ≤ 16383) (h0 : 0 ≤ a) (h1 : a < l.length) (hk : l.length + 2 < k) : shutterref11_Begin.f k r c l cu lo ins a = some (beginI l a) :=
  rBegin_loop r c l cu lo ins a hn h0 h1 l.length k 0 rfl hk
theorem rOf_eq (k : Nat) (r c : Int) (l : List S47) (cu : Int) (lo ins : Bool) (a : Int) (hn : l.length ≤ 16383) (h0 : 0 ≤ a) (h1 : a < l.length) (hk : l.length + 2 < k) : shutterref11_Of.f k r c l cu lo ins a = some ((ofI l a).f0, (ofI l a).f1, (ofI l a).f2, (ofI l a).f3) := by
  unfold shutterref11_Of.f ofI
  rw [rBegin_eq k r c l cu lo ins a hn h0 h1 hk, Option.bind_some]
  rcases begin_range l a (by omega) with hb | ⟨hb0, hb1, _⟩
  · rw [hb, if_pos (by decide), if_pos (by decide)]
  · have hlt : ¬ beginI l a < 0 := by omega
    rw [if_neg hlt, if_pos hb0, if_pos hb1, if_neg hlt]
theorem rOpen_eq (k : Nat) (r c : Int) (l : List S47) (cu : Int) (lo ins : Bool) (a : Int) (hn : l.length ≤ 16383) (h0 : 0 ≤ a) (h1 : a < l.length) (hk : l.length + 2 < k) : shutterref11_Open.f k r c l cu lo ins a = some (openI l a) := by
  unfold shutterref11_Open.f openI
  rw [if_pos h0, if_pos h1, rOf_eq k r c l cu lo ins a hn h0 h1 hk, isF_rd]
  cases isF l a <;> simp

theorem rfirst_eq (k : Nat) (r c : Int) (l : List S47) (cu : Int) (lo ins : Bool) (i : Int) (hn : l.length ≤ 16383) (h0 : 0 ≤ i) (h1 : i < l.length) (hk : 1 < k) : shutterref11_first.f k r c l cu lo ins i = some (if entI l i = true then onI l.length i 1 else -1) := by
  have hp : 0 < l.length := by omega
  unfold shutterref11_first.f
  rw [w64 (by omega), mod_eq k _ _ hk hp hn (by omega) (by omega), Option.bind_some, if_pos h0, if_pos h1, isF_rd, if_pos (Int.emod_nonneg _ (by omega)), if_pos (Int.emod_lt_of_pos _ (by omega)), isF_rd]
  unfold entI protI
  show _ = some (if (isF l i && !(rd_T47 l i).f1.f0 && !isF l ((i + 1) % (l.length : Int))) = true then (i + 1) % (l.length : Int) else -1)
  cases isF l i <;> cases (rd_T47 l i).f1.f0 <;> cases isF l ((i + 1) % (l.length : Int)) <;> rfl

theorem rNext_loop (r c : Int) (l : List S47) (cu : Int) (lo ins : Bool) (a : Int) (hn : l.length ≤ 16383) (h0 : 0 ≤ a) (h1 : a < l.length) : ∀ (d k i : Nat), d + i = l.length → d + 2 < k → shutterref11_Next.l0 k a ((i : Int) + 1) r c l cu lo ins = some (if findW (entI l) (fun j => (a + (j + 1)) % (l.length : Int)) d i < 0 then -1 else onI l.length (findW (entI l) (fun j => (a + (j + 1)) % (l.length : Int)) d i) 1)
  | 0, k, i, hd, hk => by
    obtain ⟨k, rfl⟩ : ∃ m, k = m + 1 := ⟨k - 1, by omega⟩
    rw [shutterref11_Next.l0, if_neg (by omega)]; rfl
  | d + 1, k, i, hd, hk => by
    obtain ⟨k, rfl⟩ : ∃ m, k = m + 1 := ⟨k - 1, by omega⟩
    have hp : 0 < l.length := by omega
    have m0 := Int.emod_nonneg (a + ((i : Int) + 1)) (b := (l.length : Int)) (by omega)
    have m1 := Int.emod_lt_of_pos (a + ((i : Int) + 1)) (b := (l.length : Int)) (by omega)
    rw [shutterref11_Next.l0, if_pos (by omega), w64 (by omega), mod_eq k _ _ (by omega) hp hn (by omega) (by omega), Option.bind_some, rfirst_eq k r c l cu lo ins _ hn m0 m1 (by omega), Option.bind_some]
    have hF : findW (entI l) (fun j => (a + (j + 1)) % (l.length : Int)) (d + 1) i = if entI l ((a + ((i : Int) + 1)) % (l.length : Int)) = true then (a + ((i : Int) + 1)) % (l.length : Int) else findW (entI l) (fun j => (a + (j + 1)) % (l.length : Int)) d (i + 1) := rfl
    rw [hF]
    by_cases hf : entI l ((a + ((i : Int) + 1)) % (l.length : Int)) = true
    · rw [if_pos hf, if_pos hf, if_pos (onI_nonneg hp _ _), if_neg (by omega)]
    · rw [if_neg hf, if_neg hf, if_neg (by decide), w64 (by omega)]
      have := rNext_loop r c l cu lo ins a hn h0 h1 d k (i + 1) (by omega) (by omega)
      rw [Int.natCast_add] at this
      exact this
theorem rNext_eq (k : Nat) (r c : Int) (l : List S47) (cu : Int) (lo ins : Bool) (a : Int) (hn : l.length ≤ 16383) (h0 : 0 ≤ a) (h1 : a < l.length) (hk : l.length + 2 < k) : shutterref11_Next.f k r c l cu lo ins a = some (nextI l a) := by
  have := rNext_loop r c l cu lo ins a hn h0 h1 l.length k 0 rfl hk
  rw [show ((0 : Nat) : Int) + 1 = 1 from rfl] at this
  unfold shutterref11_Next.f
  rw [this, nextI, firstI]
  rw [findW_congr (entI l) (fun j => (a + (j + 1)) % (l.length : Int)) (wayI l.length a 1) (fun j => by unfold wayI sgnI; simp; congr 1; omega)]
end Go.Proofs.YtphboakgkmjpbaaGreatDoor.P
namespace Go.Proofs.YtphboakgkmjpbaaGreatDoor.P
open Go.RowKit Go.Proofs.YtphboakgkmjpbaaGreatDoorW.PrintWords Go.Proofs.YtphboakgkmjpbaaGreatDoorW.PrintLast
set_option linter.unusedVariables false
set_option linter.unusedSimpArgs false
theorem rNxt_eq (r c : Int) (l : List S47) (cu : Int) (lo ins : Bool) (a : Int) (hn : l.length ≤ 16383) (h0 : 0 ≤ a) (h1 : a < l.length) : shutterref10_Next.f r c l cu lo ins a = some (onI l.length a 1) := by
  unfold shutterref10_Next.f onI
  rw [w64 (by omega)]
  by_cases h : a + 1 = (l.length : Int)
  · rw [if_pos h, h, Int.emod_self]
  · rw [if_neg h, Int.emod_eq_of_lt (by omega) (by omega)]
theorem rSpan_loop (r c : Int) (l : List S47) (cu : Int) (lo ins : Bool) (a b : Int) (hn : l.length ≤ 16383) (a0 : 0 ≤ a) (a1 : a < l.length) (b0 : 0 ≤ b) (b1 : b < l.length) : ∀ (d K m : Nat), d + m = spanN l.length a b → 1 ≤ m → d < K →
    shutterref10_Span.l0 K a b (uptoI (fun j => onI l.length a j) m) (onI l.length a (m : Int)) r c l cu lo ins = some (spanI l.length a b)
  | 0, K, m, hd, h1, hK => by
    obtain ⟨K, rfl⟩ : ∃ z, K = z + 1 := ⟨K - 1, by omega⟩
    obtain ⟨_, _, v, _⟩ := spanN_val l.length a b a0 a1 b0 b1
    obtain rfl : m = spanN l.length a b := by omega
    rw [shutterref10_Span.l0, if_pos v]; rfl
  | d + 1, K, m, hd, h1, hK => by
    obtain ⟨K, rfl⟩ : ∃ z, K = z + 1 := ⟨K - 1, by omega⟩
    obtain ⟨_, v1, _, v⟩ := spanN_val l.length a b a0 a1 b0 b1
    have ih := rSpan_loop r c l cu lo ins a b hn a0 a1 b0 b1 d K (m + 1) (by omega) (by omega) (by omega)
    have n0 := onI_nonneg (n := l.length) (by omega) a (m : Int)
    have n1 := onI_lt (n := l.length) (by omega) a (m : Int)
    rw [shutterref10_Span.l0, if_neg (v m h1 (by omega)), if_neg (by rw [on_val _ _ _ a0 a1 (by omega)]; split <;> omega), if_pos (by rw [uptoI_length]; omega), rNxt_eq r c l cu lo ins _ hn n0 n1, Option.bind_some, on_step]
    rw [uptoI_succ] at ih
    exact ih
theorem rSpan_eq (k : Nat) (r c : Int) (l : List S47) (cu : Int) (lo ins : Bool) (a b : Int) (hn : l.length ≤ 16383) (a0 : 0 ≤ a) (a1 : a < l.length) (b0 : 0 ≤ b) (b1 : b < l.length) (hk : l.length < k) : shutterref10_Span.f k r c l cu lo ins a b = some (spanI l.length a b) := by
  unfold shutterref10_Span.f
  obtain ⟨v0, v1, _⟩ := spanN_val l.length a b a0 a1 b0 b1
  rw [rNxt_eq r c l cu lo ins _ hn a0 a1, Option.bind_some]
  have h := rSpan_loop r c l cu lo ins a b hn a0 a1 b0 b1 (spanN l.length a b - 1) k 1 (by omega) (by omega) (by omega)
  have e : uptoI (fun j : Nat => onI l.length a (j : Int)) 1 = [a] := by
    show [onI l.length a ((0 : Nat) : Int)] = [a]
    rw [on_zero _ _ a0 a1]
  rw [e] at h
  exact h
theorem r12_l0 (r c : Int) (l : List S47) (cu : Int) (lo ins : Bool) (k : Int) (tx : List Int) (ap an : Bool) (as_ : Int) (am : Bool) (ad ch r' c' cu' : Int) (lo' ins' : Bool) (hn : l.length ≤ 16383) (ht : tx.length ≤ 16383) : ∀ (d K x : Nat) (a : List S47) (at_ : Int), d + x = tx.length → a.length = l.length → 0 ≤ at_ → at_ < l.length → d < K →
    shutterref12_One.l0 K at_ x r c l cu lo ins k tx ap an as_ am ad ch r' c' a cu' lo' ins' = some (r', c', ((tx.drop x).foldl put1 (a, at_)).1, cu', lo', ins', ((tx.drop x).foldl put1 (a, at_)).2)
  | 0, K, x, a, at_, hd, hl, a0, a1, hK => by
    obtain ⟨K, rfl⟩ : ∃ z, K = z + 1 := ⟨K - 1, by omega⟩
    rw [shutterref12_One.l0, if_neg (by omega), List.drop_eq_nil_of_le (by omega)]; rfl
  | d + 1, K, x, a, at_, hd, hl, a0, a1, hK => by
    obtain ⟨K, rfl⟩ : ∃ z, K = z + 1 := ⟨K - 1, by omega⟩
    have hp : 0 < l.length := by omega
    have hx : x < tx.length := by omega
    have ih := r12_l0 r c l cu lo ins k tx ap an as_ am ad ch r' c' cu' lo' ins' hn ht d K (x + 1) (a.set at_.toNat (newC tx[x])) (onI l.length at_ 1) (by omega) (by rw [List.length_set]; exact hl) (onI_nonneg hp _ _) (onI_lt hp _ _) (by omega)
    rw [shutterref12_One.l0, w64 (by omega)]
    refine (if_pos (by omega)).trans ((if_pos (by omega)).trans ((if_pos a0).trans ((if_pos (by omega)).trans ?_)))
    rw [rNxt_eq r c l cu lo ins at_ hn a0 a1, Option.bind_some, rd_natI tx x hx, List.drop_eq_getElem_cons hx, List.foldl_cons]
    rw [show put1 (a, at_) tx[x] = (a.set at_.toNat (newC tx[x]), onI l.length at_ 1) by unfold put1; rw [hl]; rfl]
    exact ih
theorem r12_l1 (r c : Int) (l : List S47) (cu : Int) (lo ins : Bool) (r' c' : Int) (l' : List S47) (cu' : Int) (lo' ins' : Bool) (hn : l.length ≤ 16383) : ∀ (d K : Nat) (x : Int), 0 ≤ x → x + d = l.length → d < K →
    shutterref12_One.l1 K x r c l cu lo ins r' c' l' cu' lo' ins' = some (r', c', l', cu', lo', ins', tabW l d x)
  | 0, K, x, x0, hd, hK => by
    obtain ⟨K, rfl⟩ : ∃ z, K = z + 1 := ⟨K - 1, by omega⟩
    rw [shutterref12_One.l1, if_neg (by omega)]; rfl
  | d + 1, K, x, x0, hd, hK => by
    obtain ⟨K, rfl⟩ : ∃ z, K = z + 1 := ⟨K - 1, by omega⟩
    have hp : 0 < l.length := by omega
    have ih := r12_l1 r c l cu lo ins r' c' l' cu' lo' ins' hn d K (x + 1) (by omega) (by omega) (by omega)
    have n0 := onI_nonneg (n := l.length) hp x 1
    have n1 := onI_lt (n := l.length) hp x 1
    rw [shutterref12_One.l1, w64 (by omega)]
    refine (if_pos (by omega)).trans ?_
    rw [rNxt_eq r c l cu lo ins x hn x0 (by omega), Option.bind_some, if_pos x0, tabW]
    have eE : entI l x = ((rd_T47 l x).f0 && !(rd_T47 l x).f1.f0 && !(rd_T47 l (onI l.length x 1)).f0) := rfl
    rw [eE]
    cases (rd_T47 l x).f0
    · exact (if_neg (by decide)).trans (ih.trans (by simp))
    · refine (if_pos rfl).trans ?_
      cases (rd_T47 l x).f1.f0
      · refine (if_neg (by decide)).trans ((if_pos n0).trans ((if_pos n1).trans ?_))
        cases (rd_T47 l (onI l.length x 1)).f0
        · exact (if_neg (by decide)).trans (by simp)
        · exact (if_pos rfl).trans (ih.trans (by simp))
      · exact (if_pos rfl).trans (ih.trans (by simp))
/-- a row of cells set to the same character -/
def setsN (ch : Int) (sp : List Int) (a : List S47) : List S47 := sp.foldl (fun a i => a.set i.toNat (newC ch)) a
theorem rep_sets (l : List S47) (at_ ch : Int) (a0 : 0 ≤ at_) (a1 : at_ < l.length) : ∀ n : Nat, repN (l, at_) ch n = (setsN ch (uptoI (fun j => onI l.length at_ j) n) l, onI l.length at_ n)
  | 0 => by rw [repN, on_zero _ _ a0 a1]; rfl
  | n + 1 => by
    have hl : (setsN ch (uptoI (fun j => onI l.length at_ j) n) l).length = l.length := by
      have := (repN_in (n := l.length) (s := (l, at_)) ⟨rfl, a0, a1⟩ ch n).1
      rw [rep_sets l at_ ch a0 a1 n] at this; exact this
    have e : ∀ (u : List Int) (i : Int) (a : List S47), setsN ch (u ++ [i]) a = (setsN ch u a).set i.toNat (newC ch) := fun u i a => by unfold setsN; rw [List.foldl_append]; rfl
    rw [repN, rep_sets l at_ ch a0 a1 n, uptoI_succ, e, put1]
    show (_, onI (setsN ch _ l).length _ 1) = _
    rw [hl, on_step]; rfl
theorem r12_l2 (r c : Int) (l : List S47) (cu : Int) (lo ins : Bool) (k : Int) (tx : List Int) (ap an : Bool) (as_ : Int) (am : Bool) (ad ch r' c' cu' : Int) (lo' ins' : Bool) (sp : List Int) (hn : l.length ≤ 16383) (hs : sp.length ≤ 16383) (hm : ∀ x ∈ sp, 0 ≤ x ∧ x < l.length) : ∀ (d K x : Nat) (a : List S47), d + x = sp.length → a.length = l.length → d + l.length + 2 < K →
    shutterref12_One.l2 K sp x r c l cu lo ins k tx ap an as_ am ad ch r' c' a cu' lo' ins' = some (r', c', (if k = 6 then setsN ch (sp.drop x) a else (sp.drop x).foldl (eraseF (openI l)) a), cu', lo', ins', ad)
  | 0, K, x, a, hd, hl, hK => by
    obtain ⟨K, rfl⟩ : ∃ z, K = z + 1 := ⟨K - 1, by omega⟩
    rw [shutterref12_One.l2, if_neg (by omega), List.drop_eq_nil_of_le (by omega)]
    by_cases e : k = 6
    · rw [if_pos e]; rfl
    · rw [if_neg e]; rfl
  | d + 1, K, x, a, hd, hl, hK => by
    obtain ⟨K, rfl⟩ : ∃ z, K = z + 1 := ⟨K - 1, by omega⟩
    have hx : x < sp.length := by omega
    have e : rd sp (x : Int) = sp[x] := rd_natI sp x hx
    obtain ⟨i0, i1⟩ := hm sp[x] (List.getElem_mem hx)
    have ih := fun a' h' => r12_l2 r c l cu lo ins k tx ap an as_ am ad ch r' c' cu' lo' ins' sp hn hs hm d K (x + 1) a' (by omega) h' (by omega)
    rw [shutterref12_One.l2, w64 (by omega), e, List.drop_eq_getElem_cons hx]
    refine (if_pos (by omega)).trans ?_
    by_cases e6 : k = 6
    · simp only [if_pos e6] at ih ⊢
      have hx0 : (0 : Int) ≤ x := by omega
      have hxl : sp[x] < (a.length : Int) := by omega
      refine (if_pos hx0).trans ((if_pos i0).trans ((if_pos hxl).trans ?_))
      exact ih _ (by rw [List.length_set]; exact hl)
    · simp only [if_neg e6] at ih ⊢
      have hx0 : (0 : Int) ≤ x := by omega
      refine (if_pos hx0).trans ?_
      rw [rOpen_eq K r c l cu lo ins _ hn i0 i1 (by omega), Option.bind_some, List.foldl_cons]
      cases ho : openI l sp[x]
      · refine (if_neg (by decide)).trans ?_
        rw [show eraseF (openI l) a sp[x] = a by unfold eraseF; rw [ho]; rfl]
        exact ih a hl
      · have hxl : sp[x] < (a.length : Int) := by omega
        refine (if_pos rfl).trans ((if_pos i0).trans ((if_pos hxl).trans ?_))
        have h2 := ih (eraseF (openI l) a sp[x]) (by rw [eraseF_len]; exact hl)
        rw [← h2]; unfold eraseF; rw [ho]; rfl
theorem rOne_eq (K : Nat) (r c : Int) (l : List S47) (cu : Int) (lo ins : Bool) (at_ k : Int) (tx : List Int) (ap an : Bool) (as_ : Int) (am : Bool) (ad ch : Int) (hn : l.length ≤ 16383) (h0 : 0 ≤ at_) (h1 : at_ < l.length) (ht : tx.length ≤ 16383) (hk : l.length + l.length + tx.length + 3 < K) (hw : wrongI k tx ap an as_ am ad ch l.length = 0) :
    shutterref12_One.f K r c l cu lo ins at_ k tx ap an as_ am ad ch = some (r, c, (doT l cu at_ k tx ap an as_ am ad ch).1, (doT l cu at_ k tx ap an as_ am ad ch).2.1, lo, ins, (doT l cu at_ k tx ap an as_ am ad ch).2.2) := by
  obtain ⟨k0, k1, _, _, _, hA⟩ := wrong_parts hw
  have hp : 0 < l.length := by omega
  unfold shutterref12_One.f doT
  rw [rCopy_eq r c l cu lo ins hn, Option.bind_some]
  by_cases e1 : k = 1
  · rw [if_pos e1, if_pos e1]
    have := r12_l0 r c l cu lo ins k tx ap an as_ am ad ch r c cu lo ins hn ht tx.length K 0 l at_ rfl rfl h0 h1 (by omega)
    rw [List.drop_zero] at this
    unfold textN; rw [List.take_length]; exact this
  rw [if_neg e1, if_neg e1]
  by_cases e2 : k = 2
  · rw [if_pos e2, if_pos e2]
    refine (if_pos h0).trans ((if_pos h1).trans ?_)
    rw [rNxt_eq r c l cu lo ins at_ hn h0 h1, Option.bind_some]
  rw [if_neg e2, if_neg e2]
  by_cases e3 : k = 3
  · rw [if_pos e3, if_pos e3]
  rw [if_neg e3, if_neg e3]
  by_cases e4 : k = 4
  · rw [if_pos e4, if_pos e4]
  rw [if_neg e4, if_neg e4]
  by_cases e5 : k = 5
  · rw [if_pos e5, if_pos e5]
    exact r12_l1 r c l cu lo ins r c l cu lo ins hn (l.length - at_.toNat) K at_ h0 (by omega) (by omega)
  rw [if_neg e5, if_neg e5]
  obtain ⟨a0, a1⟩ := hA (by omega)
  obtain ⟨_, v1, _⟩ := spanN_val l.length at_ ad h0 h1 a0 a1
  have hsl := spanI_len l.length at_ ad
  rw [rSpan_eq K r c l cu lo ins at_ ad hn h0 h1 a0 a1 (by omega), Option.bind_some]
  have := r12_l2 r c l cu lo ins k tx ap an as_ am ad ch r c cu lo ins (spanI l.length at_ ad) hn (by omega) (fun x hx => span_mem hp hx) (spanI l.length at_ ad).length K 0 l rfl rfl (by omega)
  refine this.trans ?_
  rw [List.drop_zero]
  by_cases e6 : k = 6
  · rw [if_pos e6, if_pos e6, rep_sets l at_ ch h0 h1]; rfl
  · rw [if_neg e6, if_neg e6]
    unfold eraseN
    rw [← hsl, List.take_length]
end Go.Proofs.YtphboakgkmjpbaaGreatDoor.P
namespace Go.Proofs.YtphboakgkmjpbaaGreatDoor.P
open Go.RowKit Go.Proofs.YtphboakgkmjpbaaGreatDoorW.PrintWords Go.Proofs.YtphboakgkmjpbaaGreatDoorW.PrintLast
set_option linter.unusedVariables false
set_option linter.unusedSimpArgs false
theorem rAll_loop (r c : Int) (lo ins : Bool) (n : Nat) (hn : n ≤ 16383) (ls : List S49) (hl : ls.length ≤ 16383) (hg : ∀ o ∈ ls, GoodO o) (hw : ∀ o ∈ ls, wrO n o = 0) : ∀ (d K i : Nat) (s : St), d + i = ls.length → StI r c n s → d + n + n + 9010 < K →
    shutterref12_All.l0 K s.2.2 ls i r c s.1 s.2.1 lo ins = some (r, c, (allT (ls.drop i) s).1, (allT (ls.drop i) s).2.1, lo, ins, (allT (ls.drop i) s).2.2)
  | 0, K, i, s, hd, hs, hK => by
    obtain ⟨K, rfl⟩ : ∃ z, K = z + 1 := ⟨K - 1, by omega⟩
    rw [shutterref12_All.l0, if_neg (by omega), List.drop_eq_nil_of_le (by omega)]; rfl
  | d + 1, K, i, s, hd, hs, hK => by
    obtain ⟨K, rfl⟩ : ∃ z, K = z + 1 := ⟨K - 1, by omega⟩
    have hi : i < ls.length := by omega
    have hm : ls[i] ∈ ls := List.getElem_mem hi
    obtain ⟨h1, h2, h3⟩ := hg _ hm
    have h0 := hw _ hm
    have hsl := hs.len
    rw [shutterref12_All.l0, rd_ord ls i hi, w64 (by omega)]
    refine (if_pos (by omega)).trans ((if_pos (by omega)).trans ?_)
    rw [rOne_eq K r c s.1 s.2.1 lo ins s.2.2 _ _ _ _ _ _ _ _ (by omega) hs.at0 (by rw [hsl]; exact hs.at1) (by omega) (by omega) (by rw [hsl]; exact h0), Option.bind_some, List.drop_eq_getElem_cons hi]
    exact rAll_loop r c lo ins n hn ls hl hg hw d K (i + 1) (doO s ls[i]) (by omega) (hs.doO h0) (by omega)
theorem rAll_eq (K : Nat) (r c : Int) (l : List S47) (cu : Int) (lo ins : Bool) (at_ : Int) (ls : List S49) (hr : RightI r c l cu) (hn : l.length ≤ 16383) (h0 : 0 ≤ at_) (h1 : at_ < l.length) (hl : ls.length ≤ 16383) (hg : ∀ o ∈ ls, GoodO o) (hb : badT l.length ls 0 = none) (hK : ls.length + l.length + l.length + 9010 < K) :
    shutterref12_All.f K r c l cu lo ins at_ ls = some (r, c, (allT ls (l, cu, at_)).1, (allT ls (l, cu, at_)).2.1, lo, ins, (allT ls (l, cu, at_)).2.2) := by
  have := rAll_loop r c lo ins l.length hn ls hl hg (bad_none hb) ls.length K 0 (l, cu, at_) rfl ⟨rfl, hr, h0, h1⟩ (by omega)
  rw [List.drop_zero] at this
  exact this
end Go.Proofs.YtphboakgkmjpbaaGreatDoor.P
namespace Go.Proofs.YtphboakgkmjpbaaGreatDoor.P
open Go.RowKit Go.Proofs.YtphboakgkmjpbaaGreatDoorW.PrintWords Go.Proofs.YtphboakgkmjpbaaGreatDoorW.PrintLast
set_option linter.unusedVariables false
set_option linter.unusedSimpArgs false
theorem rclean_loop (r c : Int) (l : List S47) (cu : Int) (lo ins : Bool) (hn : l.length ≤ 16383) (hp : 0 < l.length) (r' c' cu' : Int) (lo' ins' : Bool) : ∀ (d K : Nat) (x : Int) (a : List S47), 0 ≤ x → x + d = l.length → a.length = l.length → d + l.length + 3 < K →
    shutterref13_Do.l0 K x r c l cu lo ins r' c' a cu' lo' ins' = some (r', c', sweep (openI l) (fun c => charC c 0) d x a, homeI l, false, false)
  | 0, K, x, a, x0, hx, ha, hk => by
    obtain ⟨K, rfl⟩ : ∃ m, K = m + 1 := ⟨K - 1, by omega⟩
    rw [shutterref13_Do.l0, if_neg (by omega), w64 (by omega), rNext_eq K r c l cu lo ins _ hn (by omega) (by omega) (by omega), Option.bind_some]
    unfold sweep homeI mx
    by_cases h : nextI l ((l.length : Int) - 1) < 0
    · rw [if_pos h]; simp only [Option.some.injEq, Prod.mk.injEq, true_and, and_true]; split <;> omega
    · rw [if_neg h]; simp only [Option.some.injEq, Prod.mk.injEq, true_and, and_true]; split <;> omega
  | d + 1, K, x, a, x0, hx, ha, hk => by
    obtain ⟨K, rfl⟩ : ∃ m, K = m + 1 := ⟨K - 1, by omega⟩
    rw [shutterref13_Do.l0, if_pos (by omega), rOpen_eq K r c l cu lo ins x hn x0 (by omega) (by omega), Option.bind_some, w64 (by omega)]
    unfold sweep
    by_cases h : openI l x = true
    · rw [if_pos h, if_pos x0, if_pos (by omega), if_pos h]
      exact rclean_loop r c l cu lo ins hn hp r' c' cu' lo' ins' d K (x + 1) _ (by omega) (by omega) (by rw [List.length_set]; exact ha) (by omega)
    · rw [if_neg h, if_neg h]
      exact rclean_loop r c l cu lo ins hn hp r' c' cu' lo' ins' d K (x + 1) a (by omega) (by omega) ha (by omega)
section
variable (K : Nat) (r c : Int) (l : List S47) (cu : Int) (lo ins : Bool) (cmd : Int) (a u rs : Bool) (ls : List S49)
theorem rHost_j2 (hr : RightI r c l cu) (hn : l.length ≤ 200) (hl : ls.length ≤ 60) (hg : ∀ o ∈ ls, GoodO o) (hw : ∀ o ∈ ls, wrO l.length o = 0) (hK : 9700 < K) (cmd0 : Int) (a0 : Bool) :
    shutterref13_Do.j2 K cmd0 a0 u rs ls r c (eraseL cmd l) (baseC cmd cu) lo ins = some (r, c, (hostS l cu cmd rs ls).1, (hostS l cu cmd rs ls).2.1, lo && !u, ins && !u) := by
  obtain ⟨K, rfl⟩ : ∃ z, K = z + 1 := ⟨K - 1, by omega⟩
  have hb := base_right hr cmd rs
  have hbl := baseL_len cmd rs l
  have hA := rAll_eq K r c (baseL cmd rs l) (baseC cmd cu) lo ins (baseC cmd cu) ls hb (by omega) hb.cu0 hb.cu1 (by omega) hg (none_bad (by rw [hbl]; exact hw)) (by omega)
  have he : ∀ x ∈ eraseL cmd l, okC x = true := by
    have h := (base_right hr cmd false).ok
    exact h
  rw [shutterref13_Do.j2]
  have fin : ∀ (b : Int × Int × (List S47) × Int × Bool × Bool × Int), b = (r, c, (allT ls (baseL cmd rs l, baseC cmd cu, baseC cmd cu)).1, (allT ls (baseL cmd rs l, baseC cmd cu, baseC cmd cu)).2.1, lo, ins, (allT ls (baseL cmd rs l, baseC cmd cu, baseC cmd cu)).2.2) →
      (if u = true then (some (b.1, b.2.1, b.2.2.1, b.2.2.2.1, false, false)) else (some (b.1, b.2.1, b.2.2.1, b.2.2.2.1, b.2.2.2.2.1, b.2.2.2.2.2.1))) = some (r, c, (hostS l cu cmd rs ls).1, (hostS l cu cmd rs ls).2.1, lo && !u, ins && !u) := fun b hb => by
    subst hb
    cases u with
    | true => simp only [Bool.not_true, Bool.and_false]; rfl
    | false => simp only [Bool.not_false, Bool.and_true]; rfl
  cases rs with
  | true =>
    refine (if_pos rfl).trans ?_
    rw [rreset_eq K r c (eraseL cmd l) (baseC cmd cu) lo ins true (by rw [eraseL_len]; omega) he (by rw [eraseL_len]; omega), Option.bind_some]
    show ((shutterref12_All.f K r c (baseL cmd true l) (baseC cmd cu) lo ins (baseC cmd cu) ls).bind _) = _
    rw [hA, Option.bind_some]; exact fin _ rfl
  | false =>
    refine (if_neg (by decide)).trans ?_
    show ((shutterref12_All.f K r c (baseL cmd false l) (baseC cmd cu) lo ins (baseC cmd cu) ls).bind _) = _
    rw [hA, Option.bind_some]; exact fin _ rfl
theorem rHost_eq (hr : RightI r c l cu) (hn : l.length ≤ 200) (hl : ls.length ≤ 60) (hg : ∀ o ∈ ls, GoodO o) (hK : 9900 < K) (h : writeW cmd a u rs ls l.length = none) :
    (writesI cmd = true → shutterref13_Do.f K r c l cu lo ins cmd a u rs ls = some (r, c, (hostS l cu cmd rs ls).1, (hostS l cu cmd rs ls).2.1, lo && !u, ins && !u)) ∧
    (cmd = 111 → shutterref13_Do.f K r c l cu lo ins cmd a u rs ls = some (r, c, allI l, homeI l, false, false)) ∧
    (writesI cmd = false → cmd ≠ 111 → shutterref13_Do.f K r c l cu lo ins cmd a u rs ls = some (r, c, l, cu, lo, ins)) := by
  have hp : 0 < l.length := by have := hr.cu0; have := hr.cu1; omega
  obtain ⟨K, rfl⟩ : ∃ z, K = z + 1 := ⟨K - 1, by omega⟩
  unfold shutterref13_Do.f
  rw [rCopy_eq r c l cu lo ins (by omega), Option.bind_some]
  refine ⟨fun hc => ?_, fun hc => ?_, fun hc h1 => ?_⟩
  · have hw := write_orders h hc
    have J := fun c0 a0 => rHost_j2 K r c l cu lo ins cmd u rs ls hr hn hl hg hw (by omega) c0 a0
    unfold writesI at hc
    simp only [Bool.or_eq_true, beq_iff_eq] at hc
    have h46 : (cmd == 246) = false := by simp; omega
    refine (if_neg (by omega)).trans ?_
    rw [h46, shutterref13_Do.j0]
    refine (if_neg (by decide)).trans ((if_neg (by omega)).trans ?_)
    by_cases h5 : cmd = 245
    · refine (if_pos h5).trans ((if_pos (by omega)).trans ((if_pos (by simp only [Int.toNat_natCast]; omega)).trans ?_))
      have := J cmd a
      unfold eraseL baseC at this
      rw [if_pos h5, if_pos h5] at this
      exact this
    · refine (if_neg h5).trans ?_
      have := J cmd a
      unfold eraseL baseC at this
      rw [if_neg h5, if_neg h5] at this
      exact this
  · subst hc
    refine (if_neg (by decide)).trans ?_
    rw [show ((111 : Int) == 246) = false from rfl, shutterref13_Do.j0]
    refine (if_neg (by decide)).trans ((if_pos rfl).trans ?_)
    rw [rreset_eq K r c l cu lo ins false (by omega) hr.ok (by omega), Option.bind_some]
    exact rclean_loop r c l cu lo ins (by omega) hp r c cu lo ins l.length K 0 _ (by omega) (by omega) (by rw [List.length_map]) (by omega)
  · have hk : knownI cmd = true := by
      unfold writeW at h
      cases hk : knownI cmd with
      | true => rfl
      | false => rw [if_pos hk] at h; cases h
    unfold knownI at hk
    unfold writesI at hc
    simp only [Bool.or_eq_false_iff, beq_eq_false_iff_ne] at hc
    simp only [Bool.or_eq_true, beq_iff_eq] at hk
    have j0 : shutterref13_Do.j0 (K + 1) true r c l cu lo ins cmd a u rs ls r c l cu lo ins = some (r, c, l, cu, lo, ins) := by rw [shutterref13_Do.j0]; exact if_pos rfl
    by_cases h2 : cmd = 242
    · exact (if_pos h2).trans j0
    · have h46 : (cmd == 246) = true := by simp; omega
      refine (if_neg h2).trans ?_
      rw [h46]; exact j0
end
end Go.Proofs.YtphboakgkmjpbaaGreatDoor.P
namespace Go.Proofs.YtphboakgkmjpbaaGreatDoor.P
open Go.RowKit Go.Proofs.YtphboakgkmjpbaaGreatDoorW.PrintWords Go.Proofs.YtphboakgkmjpbaaGreatDoorW.PrintLast
set_option linter.unusedVariables false
set_option linter.unusedSimpArgs false
theorem code_why {p : Er × List S177} (h : (∃ n, p.1 = .num n) ∨ ∃ x, p = (.spot, [x])) : api_Code.f (some p.1) p.2 = some (whyW (some p)).1 := by
  obtain ⟨e, s⟩ := p
  rcases h with ⟨n, h⟩ | ⟨x, h⟩
  · obtain rfl : e = .num n := h
    rfl
  · injection h with h1 h2; subst h1; subst h2; rfl
theorem where_why {p : Er × List S177} (h : (∃ n, p.1 = .num n) ∨ ∃ x, p = (.spot, [x])) : api_Where.f (some p.1) p.2 = some (whyW (some p)).2 := by
  obtain ⟨e, s⟩ := p
  rcases h with ⟨n, h⟩ | ⟨x, h⟩
  · obtain rfl : e = .num n := h
    rfl
  · injection h with h1 h2; subst h1; subst h2; rfl
theorem HostDoes_pure (r c : Int) (l : List S47) (cu : Int) (lo ins : Bool) (cmd : Int) (a u rs : Bool) (ls : List S49) (wl : ∀ x ∈ l, wfC x) (wo : ∀ o ∈ ls, wfO o) : shutterlaw13_HostDoes.f 20000 r c l cu lo ins cmd a u rs ls = some true := by
  unfold shutterlaw13_HostDoes.f
  rw [awake13_eq 20000 (by omega), Option.bind_some, if_pos rfl]
  obtain ⟨t, ht, hi⟩ := rFew_eq 20000 r c l cu lo ins (by omega)
  have jt : shutterlaw13_HostDoes.j0 20000 true r c l cu lo ins cmd a u rs ls = some true := by
    rw [shutterlaw13_HostDoes.j0, if_pos rfl, awake13_eq 19999 (by omega), Option.bind_some]
  rw [ht, Option.bind_some]
  cases t with
  | false => rw [if_neg (by decide), jt]
  | true =>
    obtain ⟨hl, hr⟩ := hi.1 rfl
    rw [if_pos rfl]
    obtain ⟨b, hb, hbi⟩ := fewO_eq 20000 cmd a u rs ls (by omega)
    rw [hb, Option.bind_some]
    cases b with
    | false => exact jt
    | true =>
      obtain ⟨hls, htx⟩ := hbi rfl
      have hg := good_of wo htx
      show shutterlaw13_HostDoes.j0 20000 false r c l cu lo ins cmd a u rs ls = some true
      obtain ⟨q1, q2, q3, q4⟩ := fHost_eq 19999 r c l cu lo ins cmd a u rs ls hr hl hls hg (by omega)
      obtain ⟨row, hrow⟩ := rWrite_eq 19999 cmd a u rs ls (l.length : Int) (by omega) hls hg (by omega)
      cases hw : writeW cmd a u rs ls l.length with
      | some p =>
        rw [hw] at hrow
        obtain ⟨n0, hp⟩ := writeW_some hw
        rw [shutterlaw13_HostDoes.j0, if_neg (by decide), q1 p.1 p.2 hw, Option.bind_some, hrow, Option.bind_some]
        refine (if_neg n0).trans ?_
        show ((api_Code.f (some p.1) p.2).bind _) = _
        rw [code_why hp, Option.bind_some]
        refine (if_pos rfl).trans ?_
        show ((api_Where.f (some p.1) p.2).bind _) = _
        rw [where_why hp, Option.bind_some]
        refine (if_pos rfl).trans ?_
        show ((shutterref10_Same.f 19999 r c l cu lo ins r c l cu lo ins).bind _) = _
        rw [rSame_self _ _ _ _ _ _ _ (by omega) (by omega), Option.bind_some]
      | none =>
        rw [hw] at hrow
        obtain ⟨s1, s2, s3⟩ := rHost_eq 19999 r c l cu lo ins cmd a u rs ls hr hl hls hg (by omega) hw
        have key : ∀ (l' : List S47) (cu' : Int) (lo' ins' : Bool), l'.length = l.length → host_Do.f 19999 r c l cu lo ins cmd a u rs ls = some (r, c, l', cu', lo', ins', none, []) → shutterref13_Do.f 19999 r c l cu lo ins cmd a u rs ls = some (r, c, l', cu', lo', ins') →
            shutterlaw13_HostDoes.j0 20000 false r c l cu lo ins cmd a u rs ls = some true := by
          intro l' cu' lo' ins' hL h1 h2
          rw [shutterlaw13_HostDoes.j0, if_neg (by decide), h1, Option.bind_some, hrow, Option.bind_some]
          refine (if_pos rfl).trans ((if_pos rfl).trans ?_)
          rw [h2, Option.bind_some]
          show ((shutterref10_Same.f 19999 r c l' cu' lo' ins' r c l' cu' lo' ins').bind _) = _
          rw [rSame_self _ _ _ _ _ _ _ (by omega) (by omega), Option.bind_some]
        cases hc : writesI cmd with
        | true => exact key _ _ _ _ (host_st hr cmd rs (write_orders hw hc)).len (q2 hw hc) (s1 hc)
        | false =>
          by_cases h111 : cmd = 111
          · exact key _ _ _ _ (allI_length l) (q3 hw h111) (s2 h111)
          · exact key _ _ _ _ rfl (q4 hw hc h111) (s3 hc h111)
end Go.Proofs.YtphboakgkmjpbaaGreatDoor.P
