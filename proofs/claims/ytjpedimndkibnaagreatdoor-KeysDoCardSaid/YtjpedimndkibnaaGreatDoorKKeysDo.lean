/-
KeysDo over plain lists: what its functions come to, and that they answer true. No Go in it.
-/
import Derived.Test.YtjpedimndkibnaaGreatDoorRows
import Derived.Test.YtjpedimndkibnaaGreatDoorPx3
import Derived.ChangeSame
import Derived.ChangeVars
import Derived.JoinedOf
import Derived.RowKit
import Derived.RowKitTokens
import Derived.LaidLaws
import Derived.LaidHandle
import Derived.Stop.Joined
import Derived.Test.YtjpedimndkibnaaGreatDoorPx0
import Derived.Deep.Slices
import Derived.WideShapes
import Derived.Test.YtjpedimndkibnaaGreatDoorJKeysDo1
import Derived.Test.YtjpedimndkibnaaGreatDoorPx7
import Derived.Test.YtjpedimndkibnaaGreatDoorPx9
import Derived.Test.YtjpedimndkibnaaGreatDoorPx17
import Derived.Test.YtjpedimndkibnaaGreatDoorPx18
import Derived.Test.YtjpedimndkibnaaGreatDoorPx19
import Derived.Test.YtjpedimndkibnaaGreatDoorPx21
import Derived.Test.YtjpedimndkibnaaGreatDoorPx22
import Derived.Test.YtjpedimndkibnaaGreatDoorPx23
import Derived.Test.YtjpedimndkibnaaGreatDoorPx6
import Derived.Test.YtjpedimndkibnaaGreatDoorPx8
import Derived.Test.YtjpedimndkibnaaGreatDoorPx10
import Derived.Test.YtjpedimndkibnaaGreatDoorPx12
import Derived.Test.YtjpedimndkibnaaGreatDoorPx13
import Derived.Test.YtjpedimndkibnaaGreatDoorPx14
import Derived.Test.YtjpedimndkibnaaGreatDoorPx11
import Derived.Test.YtjpedimndkibnaaGreatDoorPx15
import Derived.Test.YtjpedimndkibnaaGreatDoorPx16
import Derived.Test.YtjpedimndkibnaaGreatDoorPx26
import Derived.Test.YtjpedimndkibnaaGreatDoorPx27
import Derived.Test.YtjpedimndkibnaaGreatDoorPx20
import Derived.Test.YtjpedimndkibnaaGreatDoorPx28
import Derived.Test.YtjpedimndkibnaaGreatDoorPx29
import Derived.Test.YtjpedimndkibnaaGreatDoorJKeysDo2
namespace Go.Proofs.YtjpedimndkibnaaGreatDoor.P
open Go.ChangeShapes Go.WideShapes Go.RowKit
def laidL : List (String × DataW Unit) := [("errors.errorType", Rows.laid_errors_errorType)]
theorem L0.et : Tryz.prog.globalNamed "errors.errorType" = some 0 := by kernel_rfl
theorem L0.rt : (Tryz.prog.cutTypes.find? (·.1 == "internal/reflectlite.rtype")).map (·.2) = some 145 := by kernel_rfl
theorem L0.oneRow : ((List.range 204).filter fun t => Tryz.prog.rowNamed t [101, 114, 114, 111, 114]) = [34] := by kernel_rfl
theorem L0.size : Tryz.prog.types.size = 204 := by kernel_rfl
theorem laidG_of {W : World} (h : laidMetH Tryz.prog laidL W) : LaidG W := by
  have h' : laidMet Tryz.prog [] W ∧ handlesMet Tryz.prog laidL W := h
  obtain ⟨name, u, ty, e1, e2, e3, e4, e5⟩ := h'.2 _ (List.mem_singleton.2 rfl)
  have en : name = [101, 114, 114, 111, 114] := (Option.some.inj e1).symm
  subst en
  obtain rfl := Option.some.inj (L0.rt.symm.trans e2)
  have hm : ty ∈ (List.range 204).filter fun t => Tryz.prog.rowNamed t [101, 114, 114, 111, 114] := List.mem_filter.2 ⟨List.mem_range.2 (by rw [← L0.size]; exact e3), e4⟩
  rw [L0.oneRow] at hm
  obtain rfl := List.mem_singleton.1 hm
  have hh : typeHandle Tryz.prog 34 = .pointer (some ⟨1, 34, none⟩) := by kernel_rfl
  rw [hh] at e5
  unfold LaidG
  simpa using World.var?_cell L0.et e5 0
noncomputable def laidWorld (os : Os) : World :=
  let w0 := World.holding Tryz.prog os ⟨#[], #[], []⟩
  { w0 with heap := w0.heap.modify 0 fun
      | .cells _ t frozen => .cells #[.iface 145 (.agg #[.pointer (some ⟨1, 34, none⟩)])] t frozen
      | o => o }
theorem laidWorld_met (os : Os) (args : Array Value) : laidMetH Tryz.prog laidL ((laidWorld os).forCall (fun _ _ => 0) ⟨#[], args, []⟩).memory :=
  laidMetH_of_parts (laidMet_nil _ _) (by kernel_rfl)
end Go.Proofs.YtjpedimndkibnaaGreatDoor.P
namespace Go.Proofs.YtjpedimndkibnaaGreatDoor.P
open Go.RowKit Go.ChangeShapes Go.WideShapes Go.Deep Go.Proofs.YtjpedimndkibnaaGreatDoorW.PrintWords
set_option linter.unusedVariables false
set_option linter.unusedSimpArgs false
section
variable {H : Type} {enc : TypeId × Value → H} {w : World} {base : Nat} {spare : Nat → Bool} {held : Bool}

/-- A cell whose numbers are of their kinds. -/
def wfC (x : S55) : Prop := (Lit.int .i64 x.f1.f2).wf = true ∧ (Lit.int .u8 x.f2).wf = true

set_option maxRecDepth 100000 in
theorem cell_open {fuel : Nat} {cs : List Value} {x : DataW H × List MemPlace} (h : DataW.trod enc Tryz.prog w base spare held fuel 55 cs = some x) :
    ∃ c : S55, wfC c ∧ cs = [.bool c.f0, .bool c.f1.f0, .bool c.f1.f1, .int .i64 c.f1.f2, .bool c.f1.f3, .int .u8 c.f2] := by
  obtain ⟨xs, n, rfl, _, hl, hx, hf⟩ := DataW.trod_struct Tryz.underlying55 h
  have hs : Tryz.prog.cellsOf 55 = 6 := by kernel_rfl
  have hs1 : Tryz.prog.cellsOf 4 = 1 := by kernel_rfl
  have hs2 : Tryz.prog.cellsOf 53 = 4 := by kernel_rfl
  have hs3 : Tryz.prog.cellsOf 5 = 1 := by kernel_rfl
  have hs4 : Tryz.prog.cellsOf 3 = 1 := by kernel_rfl
  rw [hs] at hl
  match cs, hl, xs, hx with
  | [c0, c1, c2, c3, c4, c5], _, [y0, y1, y2], _ =>
    have h0 := hf 0 _ rfl
    have h1 := hf 1 _ rfl
    have h2 := hf 2 _ rfl
    simp only [hs1, hs2, hs3, List.drop, List.take, List.getElem?_cons_zero, List.getElem?_cons_succ] at h0 h1 h2
    obtain ⟨b0, e0, _⟩ := DataW.trod_bool Tryz.underlying4 h0
    obtain ⟨n2, e2, _, w2⟩ := DataW.trod_int Tryz.underlying5 h2
    obtain ⟨zs, m, rfl, _, hl', hx', hf'⟩ := DataW.trod_struct Tryz.underlying53 h1
    match zs, hx' with
    | [z0, z1, z2, z3], _ =>
      have g0 := hf' 0 _ rfl
      have g1 := hf' 1 _ rfl
      have g2 := hf' 2 _ rfl
      have g3 := hf' 3 _ rfl
      simp only [hs1, hs4, List.drop, List.take, List.getElem?_cons_zero, List.getElem?_cons_succ] at g0 g1 g2 g3
      obtain ⟨d0, q0, _⟩ := DataW.trod_bool Tryz.underlying4 g0
      obtain ⟨d1, q1, _⟩ := DataW.trod_bool Tryz.underlying4 g1
      obtain ⟨d2, q2, _, w3⟩ := DataW.trod_int Tryz.underlying3 g2
      obtain ⟨d3, q3, _⟩ := DataW.trod_bool Tryz.underlying4 g3
      refine ⟨⟨b0, ⟨d0, d1, d2, d3⟩, n2⟩, ⟨w3, w2⟩, ?_⟩
      injection e0 with e0; injection e2 with e2; injection q0 with q0; injection q1 with q1; injection q2 with q2; injection q3 with q3
      subst e0 e2 q0 q1 q2 q3
      rfl
theorem cells_open {fuel : Nat} {cs : List Value} {x : DataW H × List MemPlace} (h : DataW.trod enc Tryz.prog w base spare held fuel 22 cs = some x) :
    ∃ (A : Option Addr) (cap : Nat) (l : List S55), cs = [.slice A l.length cap] ∧ l.length ≤ cap ∧ (∀ c ∈ l, wfC c) ∧ Kd.C k55 w A l.length l := by
  have hs : Tryz.prog.cellsOf 55 = 6 := by kernel_rfl
  rcases open_slice Tryz.underlying22 h with ⟨rfl, _⟩ | ⟨a, len, cap, m, n, D, Pl, rfl, _, hlc, hcm, hm, _, hi⟩
  · exact ⟨none, 0, [], rfl, Nat.le_refl _, by simp, Kd.C_nil _ _⟩
  · have hlm : len ≤ m := by rw [hm]; split <;> omega
    have hex : ∀ i, i < len → ∃ c : S55, wfC c ∧ ∀ j u, [Value.bool c.f0, .bool c.f1.f0, .bool c.f1.f1, .int .i64 c.f1.f2, .bool c.f1.f3, .int .u8 c.f2][j]? = some u → w.cell? (a.add (i * 6 + j)) = some u := by
      intro i hlt
      obtain ⟨cs', hc, ht⟩ := hi i (by omega)
      rw [hs] at hc
      obtain ⟨c, hw, rfl⟩ := cell_open ht
      obtain ⟨_, _, hat⟩ := World.cells?_some hc
      refine ⟨c, hw, fun j u hu => ?_⟩
      have hj : j < 6 := by
        rcases Nat.lt_or_ge j 6 with h' | h'
        · exact h'
        · rw [List.getElem?_eq_none (by simpa using h')] at hu; cases hu
      rw [← Go.Deep.add_add, hat j hj]; exact hu
    have pick : ∀ k, k ≤ len → ∃ l : List S55, l.length = k ∧ (∀ c ∈ l, wfC c) ∧ ∀ i c, l[i]? = some c → ∀ j u, [Value.bool c.f0, .bool c.f1.f0, .bool c.f1.f1, .int .i64 c.f1.f2, .bool c.f1.f3, .int .u8 c.f2][j]? = some u → w.cell? (a.add (i * 6 + j)) = some u := by
      intro k
      induction k with
      | zero => exact fun _ => ⟨[], rfl, by simp, by simp⟩
      | succ k ih =>
        intro hk
        obtain ⟨l, rfl, hw, hl⟩ := ih (by omega)
        obtain ⟨c, hcw, hc⟩ := hex l.length (by omega)
        refine ⟨l ++ [c], by simp, fun x hx => ?_, fun i d hd => ?_⟩
        · rcases List.mem_append.1 hx with h' | h'
          · exact hw x h'
          · simp at h'; subst h'; exact hcw
        · rcases Nat.lt_trichotomy i l.length with h' | rfl | h'
          · rw [List.getElem?_append_left h'] at hd; exact hl i d hd
          · simp at hd; subst hd; exact hc
          · rw [List.getElem?_eq_none (by simp; omega)] at hd; cases hd
    obtain ⟨l, rfl, hw, hl⟩ := pick len (Nat.le_refl _)
    refine ⟨some a, cap, l, rfl, hlc, hw, rfl, by have : maxLen = 9223372036854775807 := rfl; omega, fun _ => ⟨a, rfl, fun j p hp => ⟨_, rfl, k55_mk w p, fun i u hu => hl j p hp i u hu⟩⟩⟩

set_option maxRecDepth 100000 in
/-- A screen that came in, laid open. -/
theorem screen_open {r : Reach} {b0 : Nat} {v : Value} {d : DataW H} {p : List MemPlace} (hv : Value.okWide Tryz.prog w r b0 24 v) (h : DataW.Trod enc Tryz.prog w base spare held 24 v d p) :
    ∃ (a0 a1 : Int) (A : Option Addr) (c : Nat) (l : List S55) (a3 : Int) (a4 a5 : Bool), v = .agg #[.int .i64 a0, .int .i64 a1, .slice A l.length c, .int .i64 a3, .bool a4, .bool a5] ∧ l.length ≤ c ∧ Kd.C k55 w A l.length l ∧ (∀ x ∈ l, wfC x) ∧ (Lit.int .i64 a0).wf = true ∧ (Lit.int .i64 a1).wf = true ∧ (Lit.int .i64 a3).wf = true := by
  obtain ⟨cs, rfl, hsz⟩ := okWide_struct Tryz.underlying24 hv
  have hs : Tryz.prog.cellsOf 24 = 6 := by kernel_rfl
  have hs1 : Tryz.prog.cellsOf 4 = 1 := by kernel_rfl
  have hs3 : Tryz.prog.cellsOf 22 = 1 := by kernel_rfl
  have hs4 : Tryz.prog.cellsOf 3 = 1 := by kernel_rfl
  obtain ⟨L⟩ := cs
  rw [hs] at hsz
  match L, hsz with
  | [c0, c1, c2, c3, c4, c5], _ =>
    obtain ⟨fuel, hf0⟩ := h
    obtain ⟨xs, n, rfl, _, _, hx, hf⟩ := DataW.trod_struct Tryz.underlying24 hf0
    match xs, hx with
    | [y0, y1, y2, y3, y4, y5], _ =>
      have h0 := hf 0 _ rfl
      have h1 := hf 1 _ rfl
      have h2 := hf 2 _ rfl
      have h3 := hf 3 _ rfl
      have h4 := hf 4 _ rfl
      have h5 := hf 5 _ rfl
      simp only [Value.cells, hs1, hs3, hs4, List.drop, List.take, List.getElem?_cons_zero, List.getElem?_cons_succ] at h0 h1 h2 h3 h4 h5
      obtain ⟨a0, e0, _, w0⟩ := DataW.trod_int Tryz.underlying3 h0
      obtain ⟨a1, e1, _, w1⟩ := DataW.trod_int Tryz.underlying3 h1
      obtain ⟨A, cap, l, e2, hlc, hw, hC⟩ := cells_open h2
      obtain ⟨a3, e3, _, w3⟩ := DataW.trod_int Tryz.underlying3 h3
      obtain ⟨a4, e4, _⟩ := DataW.trod_bool Tryz.underlying4 h4
      obtain ⟨a5, e5, _⟩ := DataW.trod_bool Tryz.underlying4 h5
      injection e0 with e0; injection e1 with e1; injection e2 with e2; injection e3 with e3; injection e4 with e4; injection e5 with e5
      subst e0 e1 e2 e3 e4 e5
      exact ⟨a0, a1, A, cap, l, a3, a4, a5, rfl, hlc, hC, hw, w0, w1, w3⟩
end

theorem wf_u8 {a : Int} (h : (Lit.int .u8 a).wf = true) : 0 ≤ a ∧ a ≤ 255 := by
  unfold Lit.wf at h
  rw [Bool.and_eq_true] at h
  exact ⟨of_decide_eq_true h.1, of_decide_eq_true h.2⟩
end Go.Proofs.YtjpedimndkibnaaGreatDoor.P
namespace Go.Proofs.YtjpedimndkibnaaGreatDoor.P
open Go.RowKit Go.ChangeShapes Go.WideShapes Go.Deep Go.Proofs.YtjpedimndkibnaaGreatDoorW.PrintWords
set_option linter.unusedVariables false
set_option linter.unusedSimpArgs false
section
variable {H : Type} {enc : TypeId × Value → H} {w : World} {base : Nat} {spare : Nat → Bool} {held : Bool}
set_option maxRecDepth 100000 in
theorem key_open {r : Reach} {b0 : Nat} {v : Value} {d : DataW H} {p : List MemPlace} (hv : Value.okWide Tryz.prog w r b0 45 v) (h : DataW.Trod enc Tryz.prog w base spare held 45 v d p) :
    ∃ (a0 a1 : Int), v = .agg #[.int .i64 a0, .int .u8 a1] ∧ (Lit.int .i64 a0).wf = true ∧ (Lit.int .u8 a1).wf = true := by
  obtain ⟨cs, rfl, hsz⟩ := okWide_struct Tryz.underlying45 hv
  have hs : Tryz.prog.cellsOf 45 = 2 := by kernel_rfl
  have hs1 : Tryz.prog.cellsOf 5 = 1 := by kernel_rfl
  have hs4 : Tryz.prog.cellsOf 3 = 1 := by kernel_rfl
  obtain ⟨L⟩ := cs
  rw [hs] at hsz
  match L, hsz with
  | [c0, c1], _ =>
    obtain ⟨fuel, hf0⟩ := h
    obtain ⟨xs, n, rfl, _, _, hx, hf⟩ := DataW.trod_struct Tryz.underlying45 hf0
    match xs, hx with
    | [y0, y1], _ =>
      have h0 := hf 0 _ rfl
      have h1 := hf 1 _ rfl
      simp only [Value.cells, hs1, hs4, List.drop, List.take, List.getElem?_cons_zero, List.getElem?_cons_succ] at h0 h1
      obtain ⟨a0, e0, _, w0⟩ := DataW.trod_int Tryz.underlying3 h0
      obtain ⟨a1, e1, _, w1⟩ := DataW.trod_int Tryz.underlying5 h1
      injection e0 with e0; injection e1 with e1
      subst e0 e1
      exact ⟨a0, a1, rfl, w0, w1⟩
end
end Go.Proofs.YtjpedimndkibnaaGreatDoor.P
namespace Go.Proofs.YtjpedimndkibnaaGreatDoor.P
open Go.RowKit Go.Proofs.YtjpedimndkibnaaGreatDoorW.PrintWords Go.Proofs.YtjpedimndkibnaaGreatDoorW.PrintLast
set_option linter.unusedVariables false
set_option linter.unusedSimpArgs false

theorem w64 {x : Int} (h : -9223372036854775808 ≤ x ∧ x ≤ 9223372036854775807) : wrap64 x = x := by unfold wrap64; omega

theorem isF_rd (l : List S55) (i : Int) : (rd_T55 l i).f0 = isF l i := rfl
theorem sub_sub_emod (a i : Int) (n : Nat) (i0 : 0 ≤ i) (i1 : i < n) : (a - (a - i) % (n : Int)) % (n : Int) = i := by
  rw [Int.sub_emod, Int.emod_emod_of_dvd _ (Int.dvd_refl _), ← Int.sub_emod, show a - (a - i) = i by omega]
  exact Int.emod_eq_of_lt i0 i1

theorem fBegin_eq (r c : Int) (l : List S55) (cu : Int) (lo ins : Bool) (a : Int) (hn : l.length ≤ 16383) (h0 : 0 ≤ a) (h1 : a < l.length) : field_Begin.f r c l cu lo ins a = some (beginI l a) := by
  unfold field_Begin.f; rw [if_pos hn, if_pos h0, if_pos h1]

theorem no_field (l : List S55) (a : Int) (hp : 0 < l.length) (h0 : 0 ≤ a) (h1 : a < l.length) (h : beginI l a = -1) (i : Int) (i0 : 0 ≤ i) (i1 : i < l.length) : isF l i = false := by
  rcases findW_cases (isF l) (fun j => (a - j) % (l.length : Int)) l.length 0 with ⟨_, hf⟩ | ⟨j, _, _, h3, _, h5⟩
  · -- i is met at j = (a - i) % n
    have hm0 := Int.emod_nonneg (a - i) (b := (l.length : Int)) (by omega)
    have hm1 := Int.emod_lt_of_pos (a - i) (b := (l.length : Int)) (by omega)
    have := hf ((a - i) % (l.length : Int)).toNat (by omega) (by omega)
    simp only [Int.toNat_of_nonneg hm0] at this
    rw [sub_sub_emod a i l.length i0 i1] at this
    exact this
  · rw [beginI, h5] at h
    have := Int.emod_nonneg (a - j) (b := (l.length : Int)) (by omega)
    omega

theorem takeW_congr (p : Int → Bool) (g g' : Nat → Int) (h : ∀ j, g j = g' j) : ∀ c s, takeW p g c s = takeW p g' c s := by
  have : g = g' := funext h
  subst this; intros; rfl
theorem findW_congr (p : Int → Bool) (g g' : Nat → Int) (h : ∀ j, g j = g' j) : ∀ c s, findW p g c s = findW p g' c s := by
  have : g = g' := funext h
  subst this; intros; rfl
theorem fCells_eq (r c : Int) (l : List S55) (cu : Int) (lo ins : Bool) (a : Int) (hn : l.length ≤ 16383) (h0 : 0 ≤ a) (h1 : a < l.length) : field_Cells.f r c l cu lo ins a = some (cellsI l a) := by
  unfold field_Cells.f; rw [if_pos hn, if_pos h0, if_pos h1]
theorem fNext_eq (r c : Int) (l : List S55) (cu : Int) (lo ins : Bool) (a : Int) (hn : l.length ≤ 16383) (h0 : 0 ≤ a) (h1 : a < l.length) : field_Next.f r c l cu lo ins a = some (nextI l a) := by
  unfold field_Next.f; rw [if_pos hn, if_pos h0, if_pos h1]
theorem rd_nat (l : List S55) (i : Nat) (h : i < l.length) : rd_T55 l (i : Int) = l[i] := rd_getElem l i h
/-- a cell's field's attribute -/
def ofI (l : List S55) (a : Int) : S53 := if beginI l a < 0 then ⟨false, false, 0, false⟩ else (rd_T55 l (beginI l a)).f1
/-- a cell is open -/
def openI (l : List S55) (a : Int) : Bool := !isF l a && !(ofI l a).f0
theorem fOf_eq (r c : Int) (l : List S55) (cu : Int) (lo ins : Bool) (a : Int) (hn : l.length ≤ 16383) (h0 : 0 ≤ a) (h1 : a < l.length) : field_Of.f r c l cu lo ins a = some ((ofI l a).f0, (ofI l a).f1, (ofI l a).f2, (ofI l a).f3) := by
  unfold field_Of.f ofI
  rw [fBegin_eq r c l cu lo ins a hn h0 h1, Option.bind_some]
  rcases begin_range l a (by omega) with hb | ⟨hb0, hb1, _⟩
  · rw [hb, if_pos (by decide), if_pos (by decide)]
  · have hlt : ¬ beginI l a < 0 := by omega
    rw [if_neg hlt, if_pos hb0, if_pos hb1, if_neg hlt]
theorem fOpen_eq (r c : Int) (l : List S55) (cu : Int) (lo ins : Bool) (a : Int) (hn : l.length ≤ 16383) (h0 : 0 ≤ a) (h1 : a < l.length) : field_Open.f r c l cu lo ins a = some (openI l a) := by
  unfold field_Open.f openI
  rw [if_pos h0, if_pos h1, fOf_eq r c l cu lo ins a hn h0 h1, isF_rd]
  cases isF l a <;> simp
/-- a cell is right -/
def okC (x : S55) : Bool := if x.f0 = true then (x.f2 == 0 && (decide (0 ≤ x.f1.f2) && decide (x.f1.f2 ≤ 3))) else ((!x.f1.f0 && (!x.f1.f1 && (x.f1.f2 == 0 && (!x.f1.f3)))) && (x.f2 == 0 || (x.f2 == 28 || (x.f2 == 30 || (decide (64 ≤ x.f2) && decide (x.f2 ≤ 254))))))
theorem rCell_eq (x : S55) : shutterref10_Cell.f x.f0 x.f1.f0 x.f1.f1 x.f1.f2 x.f1.f3 x.f2 = some (okC x) := by
  unfold shutterref10_Cell.f okC
  by_cases h : x.f0 = true
  · rw [if_pos h, if_pos h]
    by_cases h2 : x.f2 = 0
    · rw [if_pos h2]
      by_cases h3 : x.f1.f2 ≥ 0
      · rw [if_pos h3]; simp [h2]; intro _; omega
      · rw [if_neg h3]; simp [h2]; intro _; omega
    · rw [if_neg h2]; simp [h2]
  · rw [if_neg h, if_neg h]
    cases hA : (!x.f1.f0 && (!x.f1.f1 && (x.f1.f2 == 0 && (!x.f1.f3))))
    · simp
    · simp only [if_true, Bool.true_and]
      unfold shutterref05_Char.f
      by_cases e0 : x.f2 = 0
      · simp [e0]
      · by_cases e1 : x.f2 = 28
        · simp [e1]
        · by_cases e2 : x.f2 = 30
          · simp [e2]
          · by_cases e3 : x.f2 ≥ 64
            · rw [if_neg e0, if_neg e1, if_neg e2, if_pos e3, beq_eq_false_iff_ne.2 e0, beq_eq_false_iff_ne.2 e1, beq_eq_false_iff_ne.2 e2, decide_eq_true (show 64 ≤ x.f2 from e3)]; rfl
            · rw [if_neg e0, if_neg e1, if_neg e2, if_neg e3, beq_eq_false_iff_ne.2 e0, beq_eq_false_iff_ne.2 e1, beq_eq_false_iff_ne.2 e2, decide_eq_false (show ¬ 64 ≤ x.f2 from e3)]; rfl

/-- a screen is right -/
structure RightI (r c : Int) (l : List S55) (cu : Int) : Prop where
  r1 : 1 ≤ r
  c1 : 1 ≤ c
  r2 : r ≤ 16383
  c2 : c ≤ 16383
  rc : r * c ≤ 16383
  len : (l.length : Int) = r * c
  cu0 : 0 ≤ cu
  cu1 : cu < l.length
  ok : ∀ x ∈ l, okC x = true

theorem rRight_loop (r c : Int) (l : List S55) (cu : Int) (lo ins : Bool) (hn : l.length ≤ 16383) : ∀ (d k i : Nat), d + i = l.length → d < k → shutterref10_Right.l0 k i r c l cu lo ins = some ((l.drop i).all okC)
  | 0, k, i, hd, hk => by
    obtain ⟨k, rfl⟩ : ∃ m, k = m + 1 := ⟨k - 1, by omega⟩
    rw [shutterref10_Right.l0, if_neg (by omega), List.drop_eq_nil_of_le (by omega)]; rfl
  | d + 1, k, i, hd, hk => by
    obtain ⟨k, rfl⟩ : ∃ m, k = m + 1 := ⟨k - 1, by omega⟩
    rw [shutterref10_Right.l0, if_pos (by omega), if_pos (by omega), rd_nat l i (by omega), rCell_eq, Option.bind_some, List.drop_eq_getElem_cons (by omega : i < l.length), List.all_cons]
    cases h : okC l[i]
    · simp
    · simp only [if_true, Bool.true_and]
      rw [w64 (by omega)]
      exact rRight_loop r c l cu lo ins hn d k (i + 1) (by omega) (by omega)
theorem prod_bd {r c : Int} (h1 : 1 ≤ r) (h2 : r ≤ 16383) (h3 : 1 ≤ c) (h4 : c ≤ 16383) : 1 ≤ r * c ∧ r * c ≤ 268402689 := by
  constructor
  · have := Int.mul_le_mul h1 h3 (by omega) (by omega); omega
  · have := Int.mul_le_mul h2 h4 (by omega) (by omega); omega
theorem rRight_eq (k : Nat) (r c : Int) (l : List S55) (cu : Int) (lo ins : Bool) (hk : l.length + 1 < k) (hn : l.length ≤ 16383) : ∃ b, shutterref10_Right.f k r c l cu lo ins = some b ∧ (b = true ↔ RightI r c l cu) := by
  obtain ⟨k, rfl⟩ : ∃ m, k = m + 1 := ⟨k - 1, by omega⟩
  unfold shutterref10_Right.f shutterref10_Sized.f
  have no : (¬ RightI r c l cu) → ∃ b, some false = some b ∧ (b = true ↔ RightI r c l cu) := fun h => ⟨false, rfl, by simp [h]⟩
  have jt : shutterref10_Right.j0 (k + 1) true r c l cu lo ins = some false := by rw [shutterref10_Right.j0, if_pos rfl]
  by_cases h1 : r ≥ 1
  · rw [if_pos h1]
    by_cases h2 : c ≥ 1
    · rw [if_pos h2]
      by_cases h3 : r ≤ 16383
      · rw [if_pos h3]
        by_cases h4 : c ≤ 16383
        · have hb := prod_bd h1 h3 h2 h4
          rw [if_pos h4, Option.bind_some, w64 (by omega)]
          by_cases h5 : r * c ≤ 16383
          · rw [if_pos (decide_eq_true h5)]
            by_cases h6 : (l.length : Int) = r * c
            · rw [if_pos h6]
              by_cases h7 : cu < 0
              · rw [if_pos h7, jt]; exact no (fun h => by have := h.cu0; omega)
              · rw [if_neg h7, shutterref10_Right.j0]
                by_cases h8 : cu ≥ l.length
                · rw [if_pos (decide_eq_true h8)]; exact no (fun h => by have := h.cu1; omega)
                · rw [if_neg (by simp; omega)]
                  have := rRight_loop r c l cu lo ins hn l.length k 0 rfl (by omega)
                  rw [show ((0 : Nat) : Int) = 0 from rfl] at this
                  rw [this, List.drop_zero]
                  refine ⟨_, rfl, ?_⟩
                  rw [List.all_eq_true]
                  exact ⟨fun h => ⟨h1, h2, h3, h4, h5, h6, by omega, by omega, h⟩, fun h => h.ok⟩
            · rw [if_neg h6, jt]; exact no (fun h => h6 h.len)
          · rw [if_neg (by simp; omega), jt]; exact no (fun h => h5 h.rc)
        · rw [if_neg h4, Option.bind_some, if_neg (by decide), jt]; exact no (fun h => h4 h.c2)
      · rw [if_neg h3, Option.bind_some, if_neg (by decide), jt]; exact no (fun h => h3 h.r2)
    · rw [if_neg h2, Option.bind_some, if_neg (by decide), jt]; exact no (fun h => h2 h.c1)
  · rw [if_neg h1, Option.bind_some, if_neg (by decide), jt]; exact no (fun h => h1 h.r1)
theorem rFew_eq (k : Nat) (r c : Int) (l : List S55) (cu : Int) (lo ins : Bool) (hk : 202 < k) : ∃ b, shutterref10_Few.f k r c l cu lo ins = some b ∧ (b = true ↔ l.length ≤ 200 ∧ RightI r c l cu) := by
  unfold shutterref10_Few.f
  by_cases h : (l.length : Int) ≤ 200
  · obtain ⟨b, hb, hi⟩ := rRight_eq k r c l cu lo ins (by omega) (by omega)
    rw [if_pos h, hb, Option.bind_some]
    exact ⟨b, rfl, hi.trans ⟨fun x => ⟨by omega, x⟩, fun x => x.2⟩⟩
  · rw [if_neg h]; exact ⟨false, rfl, by simp; intro h'; omega⟩
end Go.Proofs.YtjpedimndkibnaaGreatDoor.P
namespace Go.Proofs.YtjpedimndkibnaaGreatDoor.P
open Go.RowKit Go.Proofs.YtjpedimndkibnaaGreatDoorW.PrintWords Go.Proofs.YtjpedimndkibnaaGreatDoorW.PrintLast
set_option linter.unusedVariables false
set_option linter.unusedSimpArgs false
theorem fPrev_eq (r c : Int) (l : List S55) (cu : Int) (lo ins : Bool) (a : Int) (hn : l.length ≤ 16383) (h0 : 0 ≤ a) (h1 : a < l.length) : field_Prev.f r c l cu lo ins a = some (prevI l a) := by
  unfold field_Prev.f; rw [if_pos hn, if_pos h0, if_pos h1]
end Go.Proofs.YtjpedimndkibnaaGreatDoor.P
namespace Go.Proofs.YtjpedimndkibnaaGreatDoor.P
open Go.RowKit Go.Proofs.YtjpedimndkibnaaGreatDoorW.PrintWords Go.Proofs.YtjpedimndkibnaaGreatDoorW.PrintLast
set_option linter.unusedVariables false
set_option linter.unusedSimpArgs false

theorem mod_eq (k : Nat) (x : Int) (n : Nat) (hk : 1 < k) (h0 : 0 < n) (hn : n ≤ 16383) (hx : -(n : Int) ≤ x) (hx1 : x ≤ 100000) : shutterref11_mod.f k x n = some (x % (n : Int)) := by
  unfold shutterref11_mod.f
  obtain ⟨k, rfl⟩ : ∃ m, k = m + 2 := ⟨k - 2, by omega⟩
  have hz : ¬ (n : Int) = 0 := by omega
  by_cases hx0 : x < 0
  · rw [shutterref11_mod.l0, if_pos hx0, w64 (by omega), shutterref11_mod.l0, if_neg (by omega), if_neg hz, Int.tmod_eq_emod_of_nonneg (by omega), Int.add_emod_right]
  · rw [shutterref11_mod.l0, if_neg hx0, if_neg hz, Int.tmod_eq_emod_of_nonneg (by omega)]

theorem mod_eq2 (k : Nat) (x : Int) (n : Nat) (hk : 2 < k) (h0 : 0 < n) (hn : n ≤ 16383) (hx : -(n : Int) - 1 ≤ x) (hx1 : x ≤ 100000) : shutterref11_mod.f k x n = some (x % (n : Int)) := by
  by_cases hx2 : -(n : Int) ≤ x
  · exact mod_eq k x n (by omega) h0 hn hx2 hx1
  · unfold shutterref11_mod.f
    obtain ⟨k, rfl⟩ : ∃ m, k = m + 1 := ⟨k - 1, by omega⟩
    rw [shutterref11_mod.l0, if_pos (by omega), w64 (by omega)]
    have := mod_eq k (x + n) n (by omega) h0 hn (by omega) (by omega)
    unfold shutterref11_mod.f at this
    rw [this, Int.add_emod_right]
theorem rBegin_loop (r c : Int) (l : List S55) (cu : Int) (lo ins : Bool) (a : Int) (hn : l.length ≤ 16383) (h0 : 0 ≤ a) (h1 : a < l.length) : ∀ (d k i : Nat), d + i = l.length → d + 2 < k → shutterref11_Begin.l0 k a i r c l cu lo ins = some (findW (isF l) (fun j => (a - j) % (l.length : Int)) d i)
  | 0, k, i, hd, hk => by
    obtain ⟨k, rfl⟩ : ∃ m, k = m + 1 := ⟨k - 1, by omega⟩
    rw [shutterref11_Begin.l0, if_neg (by omega)]; rfl
  | d + 1, k, i, hd, hk => by
    obtain ⟨k, rfl⟩ : ∃ m, k = m + 1 := ⟨k - 1, by omega⟩
    rw [shutterref11_Begin.l0, if_pos (by omega), w64 (by omega), mod_eq k _ _ (by omega) (by omega) hn (by omega) (by omega), Option.bind_some, if_pos (Int.emod_nonneg _ (by omega)), if_pos (Int.emod_lt_of_pos _ (by omega)), findW, isF_rd]
    show _ = some (if isF l ((a - (i : Int)) % (l.length : Int)) = true then (a - (i : Int)) % (l.length : Int) else _)
    by_cases hf : isF l ((a - i) % (l.length : Int)) = true
    · rw [if_pos hf, if_pos hf]
    · rw [if_neg hf, if_neg hf, w64 (by omega)]
      exact rBegin_loop r c l cu lo ins a hn h0 h1 d k (i + 1) (by omega) (by omega)
theorem rBegin_eq (k : Nat) (r c : Int) (l : List S55) (cu : Int) (lo ins : Bool) (a : Int) (hn : l.length ≤ 16383) (h0 : 0 ≤ a) (h1 : a < l.length) (hk : l.length + 2 < k) : shutterref11_Begin.f k r c l cu lo ins a = some (beginI l a) :=
  rBegin_loop r c l cu lo ins a hn h0 h1 l.length k 0 rfl hk
theorem rCells_loop (r c : Int) (l : List S55) (cu : Int) (lo ins : Bool) (b : Int) (hn : l.length ≤ 16383) (h0 : -1 ≤ b) (h1 : b < l.length) : ∀ (d k i : Nat) (out : List Int), d + i = l.length → d + 2 < k → out.length ≤ i → shutterref11_Cells.l0 k out b ((i : Int) + 1) r c l cu lo ins = some (out ++ takeW (isF l) (fun j => (b + 1 + j) % (l.length : Int)) d i)
  | 0, k, i, out, hd, hk, ho => by
    obtain ⟨k, rfl⟩ : ∃ m, k = m + 1 := ⟨k - 1, by omega⟩
    rw [shutterref11_Cells.l0, if_neg (by omega)]; simp [takeW]
  | d + 1, k, i, out, hd, hk, ho => by
    obtain ⟨k, rfl⟩ : ∃ m, k = m + 1 := ⟨k - 1, by omega⟩
    rw [shutterref11_Cells.l0, if_pos (by omega), w64 (by omega), mod_eq k _ _ (by omega) (by omega) hn (by omega) (by omega), Option.bind_some, if_pos (Int.emod_nonneg _ (by omega)), if_pos (Int.emod_lt_of_pos _ (by omega)), takeW, isF_rd]
    show _ = some (out ++ (if isF l ((b + 1 + (i : Int)) % (l.length : Int)) = true then _ else ((b + 1 + (i : Int)) % (l.length : Int)) :: _))
    have e : (b + ((i : Int) + 1)) % (l.length : Int) = (b + 1 + i) % (l.length : Int) := by congr 1; omega
    rw [e]
    by_cases hf : isF l ((b + 1 + i) % (l.length : Int)) = true
    · rw [if_pos hf, if_pos hf, List.append_nil]
    · rw [if_neg hf, if_neg hf, if_pos (by omega), w64 (by omega)]
      have := rCells_loop r c l cu lo ins b hn h0 h1 d k (i + 1) (out ++ [(b + 1 + i) % (l.length : Int)]) (by omega) (by omega) (by simp; omega)
      rw [Int.natCast_add] at this
      rw [show (i : Int) + 1 + 1 = ((i : Int) + ((1 : Nat) : Int)) + 1 by omega, this, List.append_assoc]; rfl
theorem rCells_eq (k : Nat) (r c : Int) (l : List S55) (cu : Int) (lo ins : Bool) (a : Int) (hn : l.length ≤ 16383) (h0 : 0 ≤ a) (h1 : a < l.length) (hk : l.length + 2 < k) : shutterref11_Cells.f k r c l cu lo ins a = some (cellsI l a) := by
  unfold shutterref11_Cells.f
  rw [rBegin_eq k r c l cu lo ins a hn h0 h1 hk, Option.bind_some]
  have hb : -1 ≤ beginI l a ∧ beginI l a < l.length := by rcases begin_range l a (by omega) with h | ⟨h, h', _⟩ <;> omega
  have := rCells_loop r c l cu lo ins (beginI l a) hn hb.1 hb.2 l.length k 0 [] rfl hk (Nat.le_refl _)
  rw [show ((0 : Nat) : Int) + 1 = 1 from rfl] at this
  rw [this, List.nil_append]
  congr 1
  unfold cellsI
  rcases begin_range l a (by omega) with hb | ⟨hb0, hb1, _⟩
  · rw [hb, if_pos (by decide)]
    have hg : ∀ j, j < l.length → (-1 + 1 + (j : Int)) % (l.length : Int) = j := fun j hj => by rw [show (-1 + 1 + (j : Int)) = j by omega]; exact Int.emod_eq_of_lt (by omega) (by omega)
    have := takeW_eq (isF l) (fun j => (-1 + 1 + (j : Int)) % (l.length : Int)) l.length 0 l.length (Nat.le_refl _) (fun i hi => by
      rw [Nat.zero_add]; show isF l ((-1 + 1 + (i : Int)) % (l.length : Int)) = false
      rw [hg i hi]; exact no_field l a (by omega) h0 h1 hb i (by omega) (by omega)) (.inl rfl)
    rw [this]
    unfold uptoI
    refine List.map_congr_left fun j hj => ?_
    rw [Nat.zero_add]; exact hg j (List.mem_range.1 hj)
  · rw [if_neg (by omega)]
    refine takeW_congr _ _ _ (fun j => ?_) _ _
    unfold wayI sgnI; simp
theorem rOf_eq (k : Nat) (r c : Int) (l : List S55) (cu : Int) (lo ins : Bool) (a : Int) (hn : l.length ≤ 16383) (h0 : 0 ≤ a) (h1 : a < l.length) (hk : l.length + 2 < k) : shutterref11_Of.f k r c l cu lo ins a = some ((ofI l a).f0, (ofI l a).f1, (ofI l a).f2, (ofI l a).f3) := by
  unfold shutterref11_Of.f ofI
  rw [rBegin_eq k r c l cu lo ins a hn h0 h1 hk, Option.bind_some]
  rcases begin_range l a (by omega) with hb | ⟨hb0, hb1, _⟩
  · rw [hb, if_pos (by decide), if_pos (by decide)]
  · have hlt : ¬ beginI l a < 0 := by omega
    rw [if_neg hlt, if_pos hb0, if_pos hb1, if_neg hlt]
theorem rOpen_eq (k : Nat) (r c : Int) (l : List S55) (cu : Int) (lo ins : Bool) (a : Int) (hn : l.length ≤ 16383) (h0 : 0 ≤ a) (h1 : a < l.length) (hk : l.length + 2 < k) : shutterref11_Open.f k r c l cu lo ins a = some (openI l a) := by
  unfold shutterref11_Open.f openI
  rw [if_pos h0, if_pos h1, rOf_eq k r c l cu lo ins a hn h0 h1 hk, isF_rd]
  cases isF l a <;> simp

theorem rfirst_eq (k : Nat) (r c : Int) (l : List S55) (cu : Int) (lo ins : Bool) (i : Int) (hn : l.length ≤ 16383) (h0 : 0 ≤ i) (h1 : i < l.length) (hk : 1 < k) : shutterref11_first.f k r c l cu lo ins i = some (if entI l i = true then onI l.length i 1 else -1) := by
  have hp : 0 < l.length := by omega
  unfold shutterref11_first.f
  rw [w64 (by omega), mod_eq k _ _ hk hp hn (by omega) (by omega), Option.bind_some, if_pos h0, if_pos h1, isF_rd, if_pos (Int.emod_nonneg _ (by omega)), if_pos (Int.emod_lt_of_pos _ (by omega)), isF_rd]
  unfold entI protI
  show _ = some (if (isF l i && !(rd_T55 l i).f1.f0 && !isF l ((i + 1) % (l.length : Int))) = true then (i + 1) % (l.length : Int) else -1)
  cases isF l i <;> cases (rd_T55 l i).f1.f0 <;> cases isF l ((i + 1) % (l.length : Int)) <;> rfl

theorem rNext_loop (r c : Int) (l : List S55) (cu : Int) (lo ins : Bool) (a : Int) (hn : l.length ≤ 16383) (h0 : 0 ≤ a) (h1 : a < l.length) : ∀ (d k i : Nat), d + i = l.length → d + 2 < k → shutterref11_Next.l0 k a ((i : Int) + 1) r c l cu lo ins = some (if findW (entI l) (fun j => (a + (j + 1)) % (l.length : Int)) d i < 0 then -1 else onI l.length (findW (entI l) (fun j => (a + (j + 1)) % (l.length : Int)) d i) 1)
  | 0, k, i, hd, hk => by
    obtain ⟨k, rfl⟩ : ∃ m, k = m + 1 := ⟨k - 1, by omega⟩
    rw [shutterref11_Next.l0, if_neg (by omega)]; rfl
  | d + 1, k, i, hd, hk => by
    obtain ⟨k, rfl⟩ : ∃ m, k = m + 1 := ⟨k - 1, by omega⟩
    have hp : 0 < l.length := by omega
    have m0 := Int.emod_nonneg (a + ((i : Int) + 1)) (b := (l.length : Int)) (by omega)
    have m1 := Int.emod_lt_of_pos (a + ((i : Int) + 1)) (b := (l.length : Int)) (by omega)
    rw [shutterref11_Next.l0, if_pos (by omega), w64 (by omega), mod_eq k _ _ (by omega) hp hn (by omega) (by omega), Option.bind_some, rfirst_eq k r c l cu lo ins _ hn m0 m1 (by omega), Option.bind_some]
    have hF : findW (entI l) (fun j => (a + (j + 1)) % (l.length : Int)) (d + 1) i = if entI l ((a + ((i : Int) + 1)) % (l.length : Int)) = true then (a + ((i : Int) + 1)) % (l.length : Int) else findW (entI l) (fun j => (a + (j + 1)) % (l.length : Int)) d (i + 1) := rfl
    rw [hF]
    by_cases hf : entI l ((a + ((i : Int) + 1)) % (l.length : Int)) = true
    · rw [if_pos hf, if_pos hf, if_pos (onI_nonneg hp _ _), if_neg (by omega)]
    · rw [if_neg hf, if_neg hf, if_neg (by decide), w64 (by omega)]
      have := rNext_loop r c l cu lo ins a hn h0 h1 d k (i + 1) (by omega) (by omega)
      rw [Int.natCast_add] at this
      exact this
theorem rNext_eq (k : Nat) (r c : Int) (l : List S55) (cu : Int) (lo ins : Bool) (a : Int) (hn : l.length ≤ 16383) (h0 : 0 ≤ a) (h1 : a < l.length) (hk : l.length + 2 < k) : shutterref11_Next.f k r c l cu lo ins a = some (nextI l a) := by
  have := rNext_loop r c l cu lo ins a hn h0 h1 l.length k 0 rfl hk
  rw [show ((0 : Nat) : Int) + 1 = 1 from rfl] at this
  unfold shutterref11_Next.f
  rw [this, nextI, firstI]
  rw [findW_congr (entI l) (fun j => (a + (j + 1)) % (l.length : Int)) (wayI l.length a 1) (fun j => by unfold wayI sgnI; simp; congr 1; omega)]
theorem rPrev_loop (r c : Int) (l : List S55) (cu : Int) (lo ins : Bool) (a : Int) (hn : l.length ≤ 16383) (h0 : 0 ≤ a) (h1 : a < l.length) : ∀ (d k i : Nat), d + i = l.length → d + 3 < k → shutterref11_Prev.l0 k a ((i : Int) + 2) r c l cu lo ins = some (if findW (entI l) (fun j => (a - (j + 2)) % (l.length : Int)) d i < 0 then -1 else onI l.length (findW (entI l) (fun j => (a - (j + 2)) % (l.length : Int)) d i) 1)
  | 0, k, i, hd, hk => by
    obtain ⟨k, rfl⟩ : ∃ m, k = m + 1 := ⟨k - 1, by omega⟩
    rw [shutterref11_Prev.l0, w64 (by omega), if_neg (by omega)]; rfl
  | d + 1, k, i, hd, hk => by
    obtain ⟨k, rfl⟩ : ∃ m, k = m + 1 := ⟨k - 1, by omega⟩
    have hp : 0 < l.length := by omega
    have m0 := Int.emod_nonneg (a - ((i : Int) + 2)) (b := (l.length : Int)) (by omega)
    have m1 := Int.emod_lt_of_pos (a - ((i : Int) + 2)) (b := (l.length : Int)) (by omega)
    have hmod : shutterref11_mod.f k (a - ((i : Int) + 2)) l.length = some ((a - ((i : Int) + 2)) % (l.length : Int)) := mod_eq2 k _ _ (by omega) hp hn (by omega) (by omega)
    rw [shutterref11_Prev.l0, w64 (by omega), if_pos (by omega), w64 (by omega), hmod, Option.bind_some, rfirst_eq k r c l cu lo ins _ hn m0 m1 (by omega), Option.bind_some]
    have hF : findW (entI l) (fun j => (a - (j + 2)) % (l.length : Int)) (d + 1) i = if entI l ((a - ((i : Int) + 2)) % (l.length : Int)) = true then (a - ((i : Int) + 2)) % (l.length : Int) else findW (entI l) (fun j => (a - (j + 2)) % (l.length : Int)) d (i + 1) := rfl
    rw [hF]
    by_cases hf : entI l ((a - ((i : Int) + 2)) % (l.length : Int)) = true
    · rw [if_pos hf, if_pos hf, if_pos (onI_nonneg hp _ _), if_neg (by omega)]
    · rw [if_neg hf, if_neg hf, if_neg (by decide), w64 (by omega)]
      have := rPrev_loop r c l cu lo ins a hn h0 h1 d k (i + 1) (by omega) (by omega)
      rw [Int.natCast_add] at this
      rw [show (i : Int) + 2 + 1 = (i : Int) + ((1 : Nat) : Int) + 2 by omega]
      exact this
theorem rPrev_eq (k : Nat) (r c : Int) (l : List S55) (cu : Int) (lo ins : Bool) (a : Int) (hn : l.length ≤ 16383) (h0 : 0 ≤ a) (h1 : a < l.length) (hk : l.length + 3 < k) : shutterref11_Prev.f k r c l cu lo ins a = some (prevI l a) := by
  have := rPrev_loop r c l cu lo ins a hn h0 h1 l.length k 0 rfl hk
  rw [show ((0 : Nat) : Int) + 2 = 2 from rfl] at this
  unfold shutterref11_Prev.f
  rw [this, prevI, firstI]
  rw [findW_congr (entI l) (fun j => (a - (j + 2)) % (l.length : Int)) (wayI l.length a (-2)) (fun j => by unfold wayI sgnI; simp; congr 1; omega)]
end Go.Proofs.YtjpedimndkibnaaGreatDoor.P
namespace Go.Proofs.YtjpedimndkibnaaGreatDoor.P
open Go.RowKit Go.Proofs.YtjpedimndkibnaaGreatDoorW.PrintWords Go.Proofs.YtjpedimndkibnaaGreatDoorW.PrintLast
set_option linter.unusedVariables false
set_option linter.unusedSimpArgs false

theorem cell_ext {x y : S55} (h0 : x.f0 = y.f0) (h1 : x.f1.f0 = y.f1.f0) (h2 : x.f1.f1 = y.f1.f1) (h3 : x.f1.f2 = y.f1.f2) (h4 : x.f1.f3 = y.f1.f3) (h5 : x.f2 = y.f2) : x = y := by
  obtain ⟨x0, ⟨x1, x2, x3, x4⟩, x5⟩ := x
  obtain ⟨y0, ⟨y1, y2, y3, y4⟩, y5⟩ := y
  simp only at h0 h1 h2 h3 h4 h5
  subst h0 h1 h2 h3 h4 h5
  rfl
theorem rSame_loop (r c : Int) (l : List S55) (cu : Int) (lo ins : Bool) (r' c' : Int) (l' : List S55) (cu' : Int) (lo' ins' : Bool) (hn : l.length ≤ 16383) (hl : l.length = l'.length) : ∀ (d k i : Nat), d + i = l.length → d < k → ∃ b, shutterref10_Same.l0 k i r c l cu lo ins r' c' l' cu' lo' ins' = some b ∧ (b = true ↔ l.drop i = l'.drop i)
  | 0, k, i, hd, hk => by
    obtain ⟨k, rfl⟩ : ∃ m, k = m + 1 := ⟨k - 1, by omega⟩
    rw [shutterref10_Same.l0, if_neg (by omega), List.drop_eq_nil_of_le (by omega), List.drop_eq_nil_of_le (by omega)]
    exact ⟨true, rfl, by simp⟩
  | d + 1, k, i, hd, hk => by
    obtain ⟨k, rfl⟩ : ∃ m, k = m + 1 := ⟨k - 1, by omega⟩
    rw [shutterref10_Same.l0, if_pos (by omega), if_pos (by omega), if_pos (by omega), rd_nat l i (by omega), rd_nat l' i (by omega), List.drop_eq_getElem_cons (by omega : i < l.length), List.drop_eq_getElem_cons (by omega : i < l'.length)]
    generalize l[i]'(by omega) = x
    generalize l'[i]'(by omega) = y
    by_cases h : (!(x.f0 == y.f0) || ((!(x.f1.f0 == y.f1.f0) || (!(x.f1.f1 == y.f1.f1) || (!(x.f1.f2 == y.f1.f2) || (!(x.f1.f3 == y.f1.f3))))) || (!(x.f2 == y.f2)))) = true
    · rw [if_pos h]
      refine ⟨false, rfl, ?_⟩
      simp only [Bool.false_eq_true, false_iff]
      intro e
      obtain rfl := (List.cons.inj e).1
      simp at h
    · rw [if_neg h, w64 (by omega)]
      simp only [Bool.or_eq_true, Bool.not_eq_true', beq_eq_false_iff_ne, not_or, Decidable.not_not, ne_eq] at h
      obtain ⟨h0, ⟨h1, h2, h3, h4⟩, h5⟩ := h
      obtain rfl := cell_ext h0 h1 h2 h3 h4 h5
      obtain ⟨b, hb, hi⟩ := rSame_loop r c l cu lo ins r' c' l' cu' lo' ins' hn hl d k (i + 1) (by omega) (by omega)
      refine ⟨b, hb, hi.trans ?_⟩
      constructor
      · intro e; rw [e]
      · intro e; exact (List.cons.inj e).2
theorem rSame_eq (k : Nat) (r c : Int) (l : List S55) (cu : Int) (lo ins : Bool) (r' c' : Int) (l' : List S55) (cu' : Int) (lo' ins' : Bool) (hn : l.length ≤ 16383) (hk : l.length + 1 < k) : ∃ b, shutterref10_Same.f k r c l cu lo ins r' c' l' cu' lo' ins' = some b ∧ (b = true ↔ r = r' ∧ c = c' ∧ l = l' ∧ cu = cu' ∧ lo = lo' ∧ ins = ins') := by
  obtain ⟨k, rfl⟩ : ∃ m, k = m + 1 := ⟨k - 1, by omega⟩
  unfold shutterref10_Same.f
  have jt : shutterref10_Same.j0 (k + 1) true r c l cu lo ins r' c' l' cu' lo' ins' = some false := by rw [shutterref10_Same.j0, if_pos rfl]
  have no : (¬ (r = r' ∧ c = c' ∧ l = l' ∧ cu = cu' ∧ lo = lo' ∧ ins = ins')) → ∃ b, some false = some b ∧ (b = true ↔ r = r' ∧ c = c' ∧ l = l' ∧ cu = cu' ∧ lo = lo' ∧ ins = ins') := fun h => ⟨false, rfl, by simp only [Bool.false_eq_true, false_iff]; exact h⟩
  by_cases h1 : r = r'
  · rw [if_pos h1]
    by_cases h2 : c = c'
    · rw [if_pos h2]
      by_cases h3 : cu = cu'
      · rw [if_pos h3]
        by_cases h4 : lo = lo'
        · rw [if_neg (by simp [h4])]
          by_cases h5 : ins = ins'
          · rw [if_neg (by simp [h5]), shutterref10_Same.j0]
            by_cases h6 : l.length = l'.length
            · rw [if_neg (by simp [h6])]
              obtain ⟨b, hb, hi⟩ := rSame_loop r c l cu lo ins r' c' l' cu' lo' ins' hn h6 l.length k 0 rfl (by omega)
              rw [show ((0 : Nat) : Int) = 0 from rfl] at hb
              rw [hb]
              refine ⟨b, rfl, hi.trans ?_⟩
              rw [List.drop_zero, List.drop_zero]
              exact ⟨fun e => ⟨h1, h2, e, h3, h4, h5⟩, fun e => e.2.2.1⟩
            · rw [if_pos (by simp; omega)]; exact no (fun h => h6 (by rw [h.2.2.1]))
          · rw [if_pos (by simpa using h5), jt]; exact no (fun h => h5 h.2.2.2.2.2)
        · rw [if_pos (by simpa using h4), jt]; exact no (fun h => h4 h.2.2.2.2.1)
      · rw [if_neg h3, jt]; exact no (fun h => h3 h.2.2.2.1)
    · rw [if_neg h2, jt]; exact no (fun h => h2 h.2.1)
  · rw [if_neg h1, jt]; exact no (fun h => h1 h.1)
theorem rSame_self (k : Nat) (r c : Int) (l : List S55) (cu : Int) (lo ins : Bool) (hn : l.length ≤ 16383) (hk : l.length + 1 < k) : shutterref10_Same.f k r c l cu lo ins r c l cu lo ins = some true := by
  obtain ⟨b, hb, hi⟩ := rSame_eq k r c l cu lo ins r c l cu lo ins hn hk
  rw [hb, hi.2 ⟨rfl, rfl, rfl, rfl, rfl, rfl⟩]
theorem rCopy_eq (r c : Int) (l : List S55) (cu : Int) (lo ins : Bool) (hn : l.length ≤ 16383) : shutterref10_Copy.f r c l cu lo ins = some (r, c, l, cu, lo, ins) := by
  unfold shutterref10_Copy.f
  simp only [Option.bind_some, List.length_nil, List.nil_append]
  rw [if_pos (by omega)]

end Go.Proofs.YtjpedimndkibnaaGreatDoor.P
namespace Go.Proofs.YtjpedimndkibnaaGreatDoor.P
open Go.RowKit Go.Proofs.YtjpedimndkibnaaGreatDoorW.PrintWords Go.Proofs.YtjpedimndkibnaaGreatDoorW.PrintLast
set_option linter.unusedVariables false
set_option linter.unusedSimpArgs false

end Go.Proofs.YtjpedimndkibnaaGreatDoor.P
namespace Go.Proofs.YtjpedimndkibnaaGreatDoor.P
open Go.RowKit Go.Proofs.YtjpedimndkibnaaGreatDoorW.PrintWords Go.Proofs.YtjpedimndkibnaaGreatDoorW.PrintLast
set_option linter.unusedVariables false
set_option linter.unusedSimpArgs false

theorem grid_On_eq (r c : Int) (l : List S55) (cu : Int) (lo ins : Bool) (a d : Int) (hn : l.length ≤ 16383) (h0 : 0 ≤ a) (h1 : a < l.length) : grid_On.f r c l cu lo ins a d = some (onI l.length a d) := grid_On.eq r c l cu lo ins a d hn h0 h1
theorem grid_Copy_eq (r c : Int) (l : List S55) (cu : Int) (lo ins : Bool) (hn : l.length ≤ 16383) : grid_Copy.f r c l cu lo ins = some (r, c, l, cu, lo, ins) := by
  unfold grid_Copy.f slices_Clone_shutter_api_Cell_shutter_api_Cell.f
  rw [if_pos hn]; rfl
def spanN (n : Nat) (a b : Int) : Nat := if b = a then n else ((b - a) % (n : Int)).toNat
def spanI (n : Nat) (a b : Int) : List Int := uptoI (fun j => onI n a j) (spanN n a b)
theorem on_step (n : Nat) (a : Int) (j : Nat) : onI n (onI n a j) 1 = onI n a ((j + 1 : Nat) : Int) := by
  unfold onI
  rw [Int.emod_add_emod]
  congr 1
  omega
theorem on_zero (n : Nat) (a : Int) (h0 : 0 ≤ a) (h1 : a < n) : onI n a ((0 : Nat) : Int) = a := by
  unfold onI; rw [show a + ((0 : Nat) : Int) = a by omega]; exact Int.emod_eq_of_lt h0 h1
theorem on_over (x : Int) (n : Nat) (h0 : (n : Int) ≤ x) (h1 : x < 2 * n) : x % (n : Int) = x - n := by
  have h : (x - n) % (n : Int) = x % (n : Int) := by rw [Int.sub_emod, Int.emod_self, Int.sub_zero, Int.emod_emod_of_dvd _ (Int.dvd_refl _)]
  rw [← h]; exact Int.emod_eq_of_lt (by omega) (by omega)
theorem on_under (x : Int) (n : Nat) (h0 : -(n : Int) ≤ x) (h1 : x < 0) : x % (n : Int) = x + n := by
  have h : (x + n - n) % (n : Int) = (x + n) % (n : Int) := by rw [Int.sub_emod, Int.emod_self, Int.sub_zero, Int.emod_emod_of_dvd _ (Int.dvd_refl _)]
  rw [show x + n - n = x by omega] at h
  rw [h]; exact Int.emod_eq_of_lt (by omega) (by omega)
theorem on_val (n : Nat) (a : Int) (j : Nat) (h0 : 0 ≤ a) (h1 : a < n) (hj : j ≤ n) : onI n a (j : Int) = if a + j < n then a + j else a + j - n := by
  unfold onI
  by_cases h : a + j < n
  · rw [if_pos h]; exact Int.emod_eq_of_lt (by omega) h
  · rw [if_neg h]; exact on_over _ _ (by omega) (by omega)
theorem spanN_val (n : Nat) (a b : Int) (a0 : 0 ≤ a) (a1 : a < n) (b0 : 0 ≤ b) (b1 : b < n) : 1 ≤ spanN n a b ∧ spanN n a b ≤ n ∧ onI n a (spanN n a b) = b ∧ ∀ j, 1 ≤ j → j < spanN n a b → onI n a (j : Int) ≠ b := by
  unfold spanN
  by_cases h : b = a
  · rw [if_pos h]
    refine ⟨by omega, Nat.le_refl _, ?_, fun j j1 j2 => ?_⟩
    · rw [on_val n a n a0 a1 (by omega), if_neg (by omega)]; omega
    · rw [on_val n a j a0 a1 (by omega)]; split <;> omega
  · rw [if_neg h]
    have e : (b - a) % (n : Int) = if a < b then b - a else b - a + n := by
      by_cases hh : a < b
      · rw [if_pos hh]; exact Int.emod_eq_of_lt (by omega) (by omega)
      · rw [if_neg hh]; exact on_under _ _ (by omega) (by omega)
    rw [e]
    by_cases hh : a < b
    · rw [if_pos hh]
      refine ⟨by omega, by omega, ?_, fun j j1 j2 => ?_⟩
      · rw [on_val n a _ a0 a1 (by omega), if_pos (by omega)]; omega
      · rw [on_val n a j a0 a1 (by omega)]; split <;> omega
    · rw [if_neg hh]
      refine ⟨by omega, by omega, ?_, fun j j1 j2 => ?_⟩
      · rw [on_val n a _ a0 a1 (by omega), if_neg (by omega)]; omega
      · rw [on_val n a j a0 a1 (by omega)]; split <;> omega
theorem Span_loop (r c : Int) (l : List S55) (cu : Int) (lo ins : Bool) (a b : Int) (hn : l.length ≤ 16383) (a0 : 0 ≤ a) (a1 : a < l.length) (b0 : 0 ≤ b) (b1 : b < l.length) : ∀ (d K m : Nat), d + m = spanN l.length a b → 1 ≤ m → d < K →
    grid_Span.l0 K b (uptoI (fun j => onI l.length a j) m) (onI l.length a (m : Int)) r c l cu lo ins = some (spanI l.length a b)
  | 0, K, m, hd, h1, hK => by
    obtain ⟨K, rfl⟩ : ∃ z, K = z + 1 := ⟨K - 1, by omega⟩
    obtain ⟨_, _, v, _⟩ := spanN_val l.length a b a0 a1 b0 b1
    obtain rfl : m = spanN l.length a b := by omega
    rw [grid_Span.l0, if_pos v]; rfl
  | d + 1, K, m, hd, h1, hK => by
    obtain ⟨K, rfl⟩ : ∃ z, K = z + 1 := ⟨K - 1, by omega⟩
    obtain ⟨_, v1, _, v⟩ := spanN_val l.length a b a0 a1 b0 b1
    have ih := Span_loop r c l cu lo ins a b hn a0 a1 b0 b1 d K (m + 1) (by omega) (by omega) (by omega)
    have n0 := onI_nonneg (n := l.length) (by omega) a (m : Int)
    have n1 := onI_lt (n := l.length) (by omega) a (m : Int)
    rw [grid_Span.l0, if_neg (v m h1 (by omega)), if_pos (by rw [uptoI_length]; omega), if_pos (by rw [uptoI_length]; omega), grid_On_eq r c l cu lo ins _ _ hn n0 n1, Option.bind_some, on_step]
    rw [uptoI_succ] at ih
    exact ih
theorem Span_eq (k : Nat) (r c : Int) (l : List S55) (cu : Int) (lo ins : Bool) (a b : Int) (hn : l.length ≤ 16383) (a0 : 0 ≤ a) (a1 : a < l.length) (b0 : 0 ≤ b) (b1 : b < l.length) (hk : l.length < k) : grid_Span.f k r c l cu lo ins a b = some (spanI l.length a b) := by
  unfold grid_Span.f
  obtain ⟨v0, v1, _⟩ := spanN_val l.length a b a0 a1 b0 b1
  rw [grid_On_eq r c l cu lo ins _ _ hn a0 a1, Option.bind_some]
  have h := Span_loop r c l cu lo ins a b hn a0 a1 b0 b1 (spanN l.length a b - 1) k 1 (by omega) (by omega) (by omega)
  have e : uptoI (fun j : Nat => onI l.length a (j : Int)) 1 = [a] := by
    show [onI l.length a ((0 : Nat) : Int)] = [a]
    rw [on_zero _ _ a0 a1]
  rw [e] at h
  exact h
/-- the first open cell from one on -/
def lineI (l : List S55) (s : Int) : Int := if findW (openI l) (fun j => onI l.length s j) l.length 0 < 0 then 0 else findW (openI l) (fun j => onI l.length s j) l.length 0
theorem rd_upto (f : Nat → Int) (k i : Nat) (h : i < k) : rd (uptoI f k) i = f i := by
  unfold rd uptoI
  rw [Int.toNat_natCast, List.getD_eq_getElem?_getD, List.getElem?_map, List.getElem?_range h]; rfl
theorem line_loop (r c : Int) (l : List S55) (cu : Int) (lo ins : Bool) (s : Int) (hn : l.length ≤ 16383) : ∀ (d K i : Nat), d + i = l.length → d < K →
    move_line.l0 K (uptoI (fun j => onI l.length s j) l.length) l.length i r c l cu lo ins = some (if findW (openI l) (fun j => onI l.length s j) d i < 0 then 0 else findW (openI l) (fun j => onI l.length s j) d i)
  | 0, K, i, hd, hK => by
    obtain ⟨K, rfl⟩ : ∃ z, K = z + 1 := ⟨K - 1, by omega⟩
    rw [move_line.l0, if_neg (by omega)]; rfl
  | d + 1, K, i, hd, hK => by
    obtain ⟨K, rfl⟩ : ∃ z, K = z + 1 := ⟨K - 1, by omega⟩
    have ih := line_loop r c l cu lo ins s hn d K (i + 1) (by omega) (by omega)
    have n0 := onI_nonneg (n := l.length) (by omega) s (i : Int)
    have n1 := onI_lt (n := l.length) (by omega) s (i : Int)
    rw [move_line.l0, if_pos (by omega), if_pos (by omega), if_pos (by rw [uptoI_length]; omega), rd_upto _ _ _ (by omega), fOpen_eq r c l cu lo ins _ hn n0 n1, Option.bind_some, findW]
    by_cases h : openI l (onI l.length s (i : Int)) = true
    · rw [if_pos h, if_pos h, if_neg (by omega)]
    · rw [if_neg h, if_neg h, w64 (by omega), show (i : Int) + 1 = ((i + 1 : Nat) : Int) by omega]; exact ih
def zeroI (x : Int) : Int := if x < 0 then 0 else x
theorem zero_mx (x : Int) : mx 0 x = zeroI x := by unfold zeroI mx; split <;> split <;> omega
/-- where a move leads -/
def toI (c : Int) (l : List S55) (cu kind : Int) : Int :=
  if kind = 2 then onI l.length cu (-1) else if kind = 3 then onI l.length cu 1 else if kind = 4 then onI l.length cu (-c) else if kind = 5 then onI l.length cu c
  else if kind = 6 then zeroI (nextI l cu) else if kind = 7 then zeroI (prevI l cu) else if kind = 8 then zeroI (nextI l ((l.length : Int) - 1)) else lineI l (onI l.length (cu - cu % c) c)
theorem col_parts {r c : Int} {l : List S55} {cu : Int} (h : RightI r c l cu) : cu % c = cu - c * (cu / c) ∧ 0 ≤ cu % c ∧ cu % c < c ∧ 0 ≤ cu / c ∧ cu / c < r ∧ c * (cu / c) ≤ cu := by
  have h1 := Int.emod_def cu c
  have h2 := Int.emod_nonneg cu (b := c) (by have := h.c1; omega)
  have h3 := Int.emod_lt_of_pos cu (b := c) (by have := h.c1; omega)
  have h4 := Int.ediv_nonneg h.cu0 (b := c) (by have := h.c1; omega)
  refine ⟨h1, h2, h3, h4, ?_, by omega⟩
  apply Int.ediv_lt_of_lt_mul (by have := h.c1; omega)
  rw [← h.len]; exact h.cu1
theorem line_start {r c : Int} {l : List S55} {cu : Int} (h : RightI r c l cu) : onI l.length (cu - cu % c) c = (cu / c + 1) % r * c := by
  obtain ⟨h1, h2, h3, h4, h5, h6⟩ := col_parts h
  unfold onI
  rw [show cu - cu % c + c = (cu / c + 1) * c by rw [h1, Int.add_mul, Int.one_mul, Int.mul_comm (cu / c) c]; omega, h.len]
  rw [Int.mul_comm (cu / c + 1) c, Int.mul_comm r c, Int.mul_emod_mul_of_pos _ _ (by have := h.c1; omega), Int.mul_comm]
theorem fTo_eq (k : Nat) (r c : Int) (l : List S55) (cu : Int) (lo ins : Bool) (kind : Int) (h : RightI r c l cu) (hk : l.length + 3 < k) : move_to.f k r c l cu lo ins kind = some (toI c l cu kind) := by
  have hn : l.length ≤ 16383 := by have := h.len; have := h.rc; omega
  have c0 := h.cu0
  have c1 := h.cu1
  unfold move_to.f toI
  by_cases h4 : kind = 4
  · rw [if_pos h4, if_neg (by omega), if_neg (by omega), if_pos h4, grid_On_eq r c l cu lo ins _ _ hn c0 c1, Option.bind_some, w64 (by have := h.c1; have := h.c2; omega)]
  rw [if_neg h4]
  by_cases h2 : kind = 2
  · rw [if_pos h2, if_pos h2, grid_On_eq r c l cu lo ins _ _ hn c0 c1, Option.bind_some]
  rw [if_neg h2, if_neg h2]
  by_cases h5 : kind = 5
  · rw [if_pos h5, if_neg (by omega), if_neg h4, if_pos h5, grid_On_eq r c l cu lo ins _ _ hn c0 c1, Option.bind_some]
  rw [if_neg h5]
  by_cases h3 : kind = 3
  · rw [if_pos h3, if_pos h3, grid_On_eq r c l cu lo ins _ _ hn c0 c1, Option.bind_some]
  rw [if_neg h3, if_neg h3, if_neg h4, if_neg h5]
  by_cases h7 : kind = 7
  · rw [if_pos h7, if_neg (by omega), if_pos h7, fPrev_eq r c l cu lo ins _ hn c0 c1, Option.bind_some, zero_mx]
  rw [if_neg h7]
  by_cases h6 : kind = 6
  · rw [if_pos h6, if_pos h6, fNext_eq r c l cu lo ins _ hn c0 c1, Option.bind_some, zero_mx]
  rw [if_neg h6, if_neg h6, if_neg h7]
  by_cases h8 : kind = 8
  · rw [if_pos h8, if_pos h8, w64 (by omega), fNext_eq r c l cu lo ins _ hn (by omega) (by omega), Option.bind_some, zero_mx]
  rw [if_neg h8, if_neg h8]
  unfold move_line.f
  obtain ⟨p1, p2, p3, p4, p5, p6⟩ := col_parts h
  have p7 : 0 ≤ c * (cu / c) := Int.mul_nonneg (by have := h.c1; omega) p4
  have n0 := onI_nonneg (n := l.length) (by omega) (cu - cu % c) c
  have n1 := onI_lt (n := l.length) (by omega) (cu - cu % c) c
  rw [if_neg (by have := h.c1; omega), Int.tmod_eq_emod_of_nonneg c0, w64 (by omega), grid_On_eq r c l cu lo ins _ _ hn (by omega) (by omega), Option.bind_some, Span_eq k r c l cu lo ins _ _ hn n0 n1 n0 n1 (by omega), Option.bind_some]
  have e : spanI l.length (onI l.length (cu - cu % c) c) (onI l.length (cu - cu % c) c) = uptoI (fun j => onI l.length (onI l.length (cu - cu % c) c) j) l.length := by unfold spanI spanN; rw [if_pos rfl]
  rw [e, uptoI_length]
  have := line_loop r c l cu lo ins (onI l.length (cu - cu % c) c) hn l.length k 0 (by omega) (by omega)
  rw [show ((0 : Nat) : Int) = 0 from rfl] at this
  rw [this, Option.bind_some]; rfl
end Go.Proofs.YtjpedimndkibnaaGreatDoor.P
namespace Go.Proofs.YtjpedimndkibnaaGreatDoor.P
open Go.RowKit Go.Proofs.YtjpedimndkibnaaGreatDoorW.PrintWords Go.Proofs.YtjpedimndkibnaaGreatDoorW.PrintLast
set_option linter.unusedVariables false
set_option linter.unusedSimpArgs false
theorem emod_over (x : Int) (n : Nat) (h0 : (n : Int) ≤ x) (h1 : x < 2 * n) : x % (n : Int) = x - n := by
  have h : (x - n) % (n : Int) = x % (n : Int) := by rw [Int.sub_emod, Int.emod_self, Int.sub_zero, Int.emod_emod_of_dvd _ (Int.dvd_refl _)]
  rw [← h]; exact Int.emod_eq_of_lt (by omega) (by omega)
theorem emod_under (x : Int) (n : Nat) (h0 : -(n : Int) ≤ x) (h1 : x < 0) : x % (n : Int) = x + n := by
  have h : (x + n - n) % (n : Int) = (x + n) % (n : Int) := by rw [Int.sub_emod, Int.emod_self, Int.sub_zero, Int.emod_emod_of_dvd _ (Int.dvd_refl _)]
  rw [show x + n - n = x by omega] at h
  rw [h]; exact Int.emod_eq_of_lt (by omega) (by omega)
theorem way_val (n : Nat) (b : Int) (i : Nat) (b0 : 0 ≤ b) (b1 : b < n) (hi : i < n) : wayI n b 1 i = if b + 1 + i < n then b + 1 + i else b + 1 + i - n := by
  have e : wayI n b 1 i = (b + 1 + i) % (n : Int) := by unfold wayI sgnI; rw [if_neg (by omega), Int.one_mul]
  rw [e]
  by_cases h : b + 1 + i < n
  · rw [if_pos h]; exact Int.emod_eq_of_lt (by omega) h
  · rw [if_neg h]; exact emod_over _ _ (by omega) (by omega)
theorem back_val (n : Nat) (x : Int) (j : Nat) (x0 : 0 ≤ x) (x1 : x < n) (hj : j < n) : (x - j) % (n : Int) = if (j : Int) ≤ x then x - j else x - j + n := by
  by_cases h : (j : Int) ≤ x
  · rw [if_pos h]; exact Int.emod_eq_of_lt (by omega) (by omega)
  · rw [if_neg h]; exact emod_under _ _ (by omega) (by omega)

theorem takeW_way (p : Int → Bool) (g : Nat → Int) : ∀ c s, ∃ k, k ≤ c ∧ takeW p g c s = uptoI (fun j => g (s + j)) k ∧ (∀ i, i < k → p (g (s + i)) = false) ∧ (k = c ∨ p (g (s + k)) = true)
  | 0, s => ⟨0, Nat.le_refl _, rfl, fun i h => by omega, .inl rfl⟩
  | c + 1, s => by
    by_cases h : p (g s) = true
    · exact ⟨0, by omega, by rw [takeW, if_pos h]; rfl, fun i hi => by omega, .inr h⟩
    · obtain ⟨k, h1, h2, h3, h4⟩ := takeW_way p g c (s + 1)
      refine ⟨k + 1, by omega, ?_, fun i hi => ?_, ?_⟩
      · rw [takeW, if_neg h, h2, uptoI_front]; simp only [Nat.add_zero]; congr 1; congr 1; funext j; rw [show s + 1 + j = s + (j + 1) by omega]
      · rcases i with _ | i
        · simpa using h
        · have := h3 i (by omega); rw [show s + (i + 1) = s + 1 + i by omega]; exact this
      · rcases h4 with h4 | h4
        · left; omega
        · right; rw [show s + (k + 1) = s + 1 + k by omega]; exact h4

/-- the cells behind a cell with a field, up to the next one -/
theorem cells_parts (l : List S55) (b : Int) (b0 : 0 ≤ b) (b1 : b < l.length) (hF : isF l b = true) :
    ∃ k, k < l.length ∧ cellsI l b = uptoI (wayI l.length b 1) k ∧ (∀ i, i < k → isF l (wayI l.length b 1 i) = false) ∧ isF l (wayI l.length b 1 k) = true := by
  obtain ⟨k, h1, h2, h3, h4⟩ := takeW_way (isF l) (wayI l.length b 1) l.length 0
  simp only [Nat.zero_add] at h2 h3 h4
  have hlast : wayI l.length b 1 (l.length - 1) = b := by
    rw [way_val _ _ _ b0 b1 (by omega)]; split <;> omega
  have hk : k ≠ l.length := fun e => by
    have := h3 (l.length - 1) (by omega)
    rw [hlast, hF] at this; cases this
  refine ⟨k, by omega, ?_, h3, ?_⟩
  · unfold cellsI
    rw [begin_here l b b0 b1 hF, if_neg (by omega)]; exact h2
  · rcases h4 with h4 | h4
    · exact absurd h4 hk
    · exact h4
theorem begin_at (l : List S55) (x : Int) (j : Nat) (hj : j < l.length) (h : isF l ((x - j) % (l.length : Int)) = true) (h' : ∀ i : Nat, i < j → isF l ((x - i) % (l.length : Int)) = false) : beginI l x = (x - j) % (l.length : Int) :=
  findW_eq (isF l) (fun j => (x - j) % (l.length : Int)) l.length 0 j (by omega) (by omega) h (fun i _ hi => h' i hi)
theorem parts_in (l : List S55) (b : Int) (b0 : 0 ≤ b) (b1 : b < l.length) (hF : isF l b = true) (k : Nat) (hk : k < l.length) (hn : ∀ i, i < k → isF l (wayI l.length b 1 i) = false) (i : Nat) (hi : i < k) : beginI l (wayI l.length b 1 i) = b := by
  have v := way_val l.length b i b0 b1 (by omega)
  have w0 : 0 ≤ wayI l.length b 1 i ∧ wayI l.length b 1 i < l.length := by rw [v]; split <;> omega
  have e : (wayI l.length b 1 i - ((i + 1 : Nat) : Int)) % (l.length : Int) = b := by
    rw [back_val _ _ _ w0.1 w0.2 (by omega), v]; split <;> split <;> omega
  have := begin_at l (wayI l.length b 1 i) (i + 1) (by omega) (by rw [e]; exact hF) (fun j hj => by
    have e' : (wayI l.length b 1 i - (j : Int)) % (l.length : Int) = wayI l.length b 1 (i - j) := by
      rw [back_val _ _ _ w0.1 w0.2 (by omega), v, way_val _ _ _ b0 b1 (by omega)]; split <;> split <;> split <;> omega
    rw [e']; exact hn _ (by omega))
  rw [this, e]
theorem parts_all (l : List S55) (b : Int) (b0 : 0 ≤ b) (b1 : b < l.length) (k : Nat) (hk : k < l.length) (hK : isF l (wayI l.length b 1 k) = true) (x : Int) (x0 : 0 ≤ x) (x1 : x < l.length) (hx : beginI l x = b) (ne : x ≠ b) : ∃ i, i < k ∧ wayI l.length b 1 i = x := by
  rcases findW_cases (isF l) (fun j => (x - j) % (l.length : Int)) l.length 0 with ⟨h, _⟩ | ⟨j, _, hj, hp, hall, h⟩
  · have : beginI l x = -1 := h
    omega
  · have e : (x - (j : Int)) % (l.length : Int) = b := (show beginI l x = _ from h).symm.trans hx
    have v := back_val l.length x j x0 x1 (by omega)
    rw [e] at v
    have hj0 : j ≠ 0 := fun z => by
      subst z; rw [if_pos (by omega)] at v; omega
    have e2 : wayI l.length b 1 (j - 1) = x := by
      rw [way_val _ _ _ b0 b1 (by omega)]; revert v; split <;> split <;> omega
    refine ⟨j - 1, ?_, e2⟩
    rcases Nat.lt_or_ge (j - 1) k with hh | hh
    · exact hh
    · exfalso
      have e3 : (x - ((j - 1 - k : Nat) : Int)) % (l.length : Int) = wayI l.length b 1 k := by
        rw [back_val _ _ _ x0 x1 (by omega), way_val _ _ _ b0 b1 hk]; revert v; split <;> split <;> split <;> omega
      have h5 : isF l ((x - ((j - 1 - k : Nat) : Int)) % (l.length : Int)) = false := hall (j - 1 - k) (by omega) (by omega)
      rw [e3, hK] at h5; cases h5

theorem begin_never (l : List S55) (x : Int) (x0 : 0 ≤ x) (x1 : x < l.length) (h : beginI l x = -1) (y : Int) (y0 : 0 ≤ y) (y1 : y < l.length) : isF l y = false := by
  rcases findW_cases (isF l) (fun j => (x - j) % (l.length : Int)) l.length 0 with ⟨_, ha⟩ | ⟨j, _, hj, _, _, e⟩
  · by_cases hh : y ≤ x
    · have h5 : isF l ((x - ((x - y).toNat : Int)) % (l.length : Int)) = false := ha (x - y).toNat (by omega) (by omega)
      rw [back_val _ _ _ x0 x1 (by omega), if_pos (by omega), show x - ((x - y).toNat : Int) = y by omega] at h5
      exact h5
    · have h5 : isF l ((x - ((x - y + l.length).toNat : Int)) % (l.length : Int)) = false := ha (x - y + l.length).toNat (by omega) (by omega)
      rw [back_val _ _ _ x0 x1 (by omega), if_neg (by omega), show x - ((x - y + l.length).toNat : Int) + l.length = y by omega] at h5
      exact h5
  · have e2 : beginI l x = (x - (j : Int)) % (l.length : Int) := e
    have := Int.emod_nonneg (x - (j : Int)) (b := (l.length : Int)) (by omega)
    omega
theorem begin_only (l : List S55) (h : ∀ y : Int, 0 ≤ y → y < l.length → isF l y = false) (hp : 0 < l.length) (x : Int) : beginI l x = -1 :=
  findW_none (isF l) (fun j => (x - j) % (l.length : Int)) l.length 0 (fun i _ _ => h _ (Int.emod_nonneg _ (by omega)) (Int.emod_lt_of_pos _ (by omega)))
theorem cells_of_begin (l : List S55) (a b : Int) (hb : beginI l a = b) (b0 : 0 ≤ b) (b1 : b < l.length) (hF : isF l b = true) : cellsI l a = cellsI l b := by
  unfold cellsI; rw [hb, begin_here l b b0 b1 hF]
/-- the cells of an open cell's field: a list without a cell twice, all in the field, the cell itself among them -/
theorem cells_all (l : List S55) (a : Int) (a0 : 0 ≤ a) (a1 : a < l.length) (ha : isF l a = false) :
    a ∈ cellsI l a ∧ (cellsI l a).Nodup ∧ ∀ x ∈ cellsI l a, 0 ≤ x ∧ x < l.length ∧ isF l x = false ∧ beginI l x = beginI l a := by
  have hp : 0 < l.length := by omega
  rcases begin_range l a hp with hb | ⟨b0, b1, hF⟩
  · have hn := begin_never l a a0 a1 hb
    have hc : cellsI l a = uptoI (fun j => (j : Int)) l.length := by unfold cellsI; rw [hb, if_pos (by decide)]
    rw [hc, hb]
    unfold uptoI
    refine ⟨List.mem_map.2 ⟨a.toNat, List.mem_range.2 (by omega), by omega⟩, ?_, fun x hx => ?_⟩
    · exact List.Pairwise.map _ (fun x y (h : x ≠ y) => by omega) List.nodup_range
    · obtain ⟨j, hj, rfl⟩ := List.mem_map.1 hx
      have := List.mem_range.1 hj
      exact ⟨by omega, by omega, hn _ (by omega) (by omega), begin_only l hn hp _⟩
  · obtain ⟨k, hk, hc, hn, hK⟩ := cells_parts l (beginI l a) b0 b1 hF
    rw [cells_of_begin l a _ rfl b0 b1 hF, hc]
    have hne : a ≠ beginI l a := fun e => by rw [← e, ha] at hF; cases hF
    obtain ⟨i, hi, e⟩ := parts_all l (beginI l a) b0 b1 k hk hK a a0 a1 rfl hne
    unfold uptoI
    refine ⟨List.mem_map.2 ⟨i, List.mem_range.2 hi, e⟩, ?_, fun x hx => ?_⟩
    · rw [List.Nodup, List.pairwise_map]
      refine List.Pairwise.imp_of_mem ?_ List.nodup_range
      intro x y hx hy hxy he
      have hx' := List.mem_range.1 hx
      have hy' := List.mem_range.1 hy
      rw [way_val _ _ _ b0 b1 (by omega), way_val _ _ _ b0 b1 (by omega)] at he
      revert he; split <;> split <;> omega
    · obtain ⟨j, hj, rfl⟩ := List.mem_map.1 hx
      have hj' := List.mem_range.1 hj
      exact ⟨wayI_nonneg hp _ _ _, wayI_lt hp _ _ _, hn j hj', parts_in l _ b0 b1 hF k hk hn j hj'⟩
end Go.Proofs.YtjpedimndkibnaaGreatDoor.P
namespace Go.Proofs.YtjpedimndkibnaaGreatDoor.P
open Go.RowKit Go.Proofs.YtjpedimndkibnaaGreatDoorW.PrintWords Go.Proofs.YtjpedimndkibnaaGreatDoorW.PrintLast
set_option linter.unusedVariables false
set_option linter.unusedSimpArgs false
theorem open_isF {l : List S55} {a : Int} (h : openI l a = true) : isF l a = false := by
  unfold openI at h; cases hf : isF l a
  · rfl
  · rw [hf] at h; cases h
theorem ff_ : ¬ (false = true) := by decide
theorem tf_ : ¬ (true = false) := by decide
theorem pos_ {α : Type} {P : Prop} [Decidable P] {x y z : α} (h : P) (e : x = z) : (if P then x else y) = z := by rw [if_pos h]; exact e
theorem neg_ {α : Type} {P : Prop} [Decidable P] {x y z : α} (h : ¬ P) (e : y = z) : (if P then x else y) = z := by rw [if_neg h]; exact e
theorem rd_set (l : List S55) (x y : Int) (v : S55) (x0 : 0 ≤ x) (x1 : x < l.length) (y0 : 0 ≤ y) : rd_T55 (l.set (x : Int).toNat v) y = if x = y then v else rd_T55 l y := by
  obtain ⟨m, rfl⟩ := Int.eq_ofNat_of_zero_le x0
  obtain ⟨n, rfl⟩ := Int.eq_ofNat_of_zero_le y0
  simp only [rd_T55, Int.toNat_natCast, List.getD_eq_getElem?_getD, List.getElem?_set]
  by_cases h : m = n
  · subst h; rw [if_pos rfl, if_pos rfl, if_pos (by omega)]; rfl
  · rw [if_neg h, if_neg (by omega)]
theorem cells_ext {l l' : List S55} (hl : l.length = l'.length) (h : ∀ y : Int, 0 ≤ y → y < l.length → rd_T55 l y = rd_T55 l' y) : l = l' := by
  apply List.ext_getElem hl
  intro i h1 h2
  have := h (i : Int) (by omega) (by omega)
  rwa [rd_nat l i h1, rd_nat l' i h2] at this
theorem rd_mem_cells (l : List S55) (x : Int) (x0 : 0 ≤ x) (x1 : x < l.length) : rd_T55 l x ∈ l := by
  obtain ⟨m, rfl⟩ := Int.eq_ofNat_of_zero_le x0
  rw [rd_nat l m (by omega)]; exact List.getElem_mem _
theorem findW_alike {p q : Int → Bool} {g : Nat → Int} (h : ∀ j, p (g j) = q (g j)) : ∀ c s, findW p g c s = findW q g c s
  | 0, s => rfl
  | c + 1, s => by unfold findW; rw [h s, findW_alike h c]
/-- the fields of both begin at the same cells, and are open and numeric alike -/
structure SameF (l l' : List S55) : Prop where
  len : l'.length = l.length
  f : ∀ y : Int, 0 ≤ y → isF l' y = isF l y
  a0 : ∀ y : Int, 0 ≤ y → isF l y = true → (rd_T55 l' y).f1.f0 = (rd_T55 l y).f1.f0
  a1 : ∀ y : Int, 0 ≤ y → isF l y = true → (rd_T55 l' y).f1.f1 = (rd_T55 l y).f1.f1
theorem SameF.begin {l l' : List S55} (h : SameF l l') (hp : 0 < l.length) (x : Int) : beginI l' x = beginI l x := by
  unfold beginI
  rw [h.len]
  exact findW_alike (fun j => h.f _ (Int.emod_nonneg _ (by omega))) _ _
theorem SameF.of0 {l l' : List S55} (h : SameF l l') (hp : 0 < l.length) (x : Int) : (ofI l' x).f0 = (ofI l x).f0 := by
  unfold ofI
  rw [h.begin hp]
  rcases begin_range l x hp with hb | ⟨b0, b1, hF⟩
  · rw [hb, if_pos (by decide), if_pos (by decide)]
  · rw [if_neg (by omega), if_neg (by omega)]; exact h.a0 _ b0 hF
theorem SameF.open {l l' : List S55} (h : SameF l l') (hp : 0 < l.length) (x : Int) (x0 : 0 ≤ x) : openI l' x = openI l x := by
  unfold openI; rw [h.f x x0, h.of0 hp]
theorem SameF.trans {l l' l'' : List S55} (h : SameF l l') (h' : SameF l' l'') : SameF l l'' :=
  ⟨h'.len.trans h.len, fun y y0 => (h'.f y y0).trans (h.f y y0), fun y y0 e => (h'.a0 y y0 ((h.f y y0).trans e)).trans (h.a0 y y0 e), fun y y0 e => (h'.a1 y y0 ((h.f y y0).trans e)).trans (h.a1 y y0 e)⟩
def newC (a : Int) : S55 := ⟨false, ⟨false, false, 0, false⟩, a⟩
/-- a cell of a right screen that begins no field bears a character alone -/
theorem plain_cell {l : List S55} (ok : ∀ x ∈ l, okC x = true) (x : Int) (x0 : 0 ≤ x) (x1 : x < l.length) (h : isF l x = false) : rd_T55 l x = newC (rd_T55 l x).f2 := by
  have := ok _ (rd_mem_cells l x x0 x1)
  unfold isF at h
  revert this h
  generalize rd_T55 l x = z
  obtain ⟨z0, ⟨z1, z2, z3, z4⟩, z5⟩ := z
  intro h this
  change z0 = false at h
  subst h
  unfold okC at this
  simp only [Bool.false_eq_true, if_false, Bool.and_eq_true, Bool.not_eq_true', beq_iff_eq] at this
  obtain ⟨⟨e1, e2, e3, e4⟩, _⟩ := this
  subst e1 e2 e3 e4
  rfl
end Go.Proofs.YtjpedimndkibnaaGreatDoor.P
namespace Go.Proofs.YtjpedimndkibnaaGreatDoor.P
open Go.RowKit Go.Proofs.YtjpedimndkibnaaGreatDoorW.PrintWords Go.Proofs.YtjpedimndkibnaaGreatDoorW.PrintLast
set_option linter.unusedVariables false
set_option linter.unusedSimpArgs false
theorem fOn_eq (r c : Int) (l : List S55) (cu : Int) (lo ins : Bool) (a d : Int) (hn : l.length ≤ 16383) (h0 : 0 ≤ a) (h1 : a < l.length) : grid_On.f r c l cu lo ins a d = some (onI l.length a d) := grid_On.eq r c l cu lo ins a d hn h0 h1
theorem fCopy_eq (r c : Int) (l : List S55) (cu : Int) (lo ins : Bool) (hn : l.length ≤ 16383) : grid_Copy.f r c l cu lo ins = some (r, c, l, cu, lo, ins) := by
  unfold grid_Copy.f slices_Clone_shutter_api_Cell_shutter_api_Cell.f
  rw [if_pos hn]; rfl
theorem rNx_eq (r c : Int) (l : List S55) (cu : Int) (lo ins : Bool) (a : Int) (hn : l.length ≤ 16383) (h0 : 0 ≤ a) (h1 : a < l.length) : shutterref10_Next.f r c l cu lo ins a = some (onI l.length a 1) := by
  unfold shutterref10_Next.f onI
  rw [w64 (by omega)]
  by_cases h : a + 1 = (l.length : Int)
  · rw [if_pos h, h, Int.emod_self]
  · rw [if_neg h, Int.emod_eq_of_lt (by omega) (by omega)]
/-- the line of a cell -/
def rowI (l : List S55) (a : Int) : List Int := if openI l a = true then (cellsI l a).dropWhile (fun x => x != a) else []
theorem rd_nat_int (L : List Int) (k : Nat) (hk : k < L.length) : rd L (k : Int) = L[k] := by unfold rd; simp [hk]
theorem takeW_len (p : Int → Bool) (g : Nat → Int) : ∀ c s, (takeW p g c s).length ≤ c
  | 0, s => Nat.le_refl _
  | c + 1, s => by
    unfold takeW; split
    · simp
    · have := takeW_len p g c (s + 1); rw [List.length_cons]; omega
theorem cells_len (l : List S55) (a : Int) : (cellsI l a).length ≤ l.length := by
  unfold cellsI; split
  · rw [uptoI_length]; exact Nat.le_refl _
  · exact takeW_len _ _ _ _
theorem row_len (l : List S55) (a : Int) : (rowI l a).length ≤ l.length := by
  unfold rowI; split
  · exact Nat.le_trans (List.Sublist.length_le (List.dropWhile_sublist _)) (cells_len l a)
  · exact Nat.zero_le _
/-- where a cell stands in a list that has it: what lies behind it is the rest from it on -/
theorem index_loop (L : List Int) (a : Int) (hL : L.length ≤ 100000) : ∀ (d k i : Nat), d + i = L.length → d < k → a ∈ L.drop i → ∃ j : Nat, i ≤ j ∧ j < L.length ∧ slices_Index_int_int.l0 k L a L.length i = some (j : Int) ∧ L.drop j = (L.drop i).dropWhile (fun x => x != a)
  | 0, k, i, hd, hk, hm => by rw [List.drop_eq_nil_of_le (by omega)] at hm; cases hm
  | d + 1, k, i, hd, hk, hm => by
    obtain ⟨k, rfl⟩ : ∃ m, k = m + 1 := ⟨k - 1, by omega⟩
    have hi : i < L.length := by omega
    rw [slices_Index_int_int.l0, if_pos (by omega), if_pos (by omega), if_pos (by omega), rd_nat_int L i hi]
    rw [List.drop_eq_getElem_cons hi] at hm ⊢
    by_cases h : a = L[i]
    · rw [if_pos h]
      refine ⟨i, Nat.le_refl _, hi, rfl, ?_⟩
      rw [List.dropWhile_cons, if_neg (by simp [h]), List.drop_eq_getElem_cons hi]
    · rw [if_neg h, w64 (by omega)]
      have hm' : a ∈ L.drop (i + 1) := by
        rcases List.mem_cons.1 hm with e | e
        · exact absurd e h
        · exact e
      obtain ⟨j, h1, h2, h3, h4⟩ := index_loop L a hL d k (i + 1) (by omega) (by omega) hm'
      refine ⟨j, by omega, h2, h3, ?_⟩
      rw [h4, List.dropWhile_cons, if_pos (by simp; exact fun e => h e.symm)]
theorem fLine_eq (k : Nat) (r c : Int) (l : List S55) (cu : Int) (lo ins : Bool) (a : Int) (hn : l.length ≤ 16383) (h0 : 0 ≤ a) (h1 : a < l.length) (hk : l.length < k) : edit_Line.f k r c l cu lo ins a = some (rowI l a) := by
  unfold edit_Line.f rowI
  rw [fOpen_eq r c l cu lo ins a hn h0 h1, Option.bind_some]
  by_cases ho : openI l a = true
  · rw [if_pos ho, if_pos ho, fCells_eq r c l cu lo ins a hn h0 h1, Option.bind_some]
    have hc := cells_all l a h0 h1 (open_isF ho)
    have hl := cells_len l a
    obtain ⟨j, _, hj, he, hd⟩ := index_loop (cellsI l a) a (by omega) (cellsI l a).length k 0 (by omega) (by omega) (by rw [List.drop_zero]; exact hc.1)
    unfold slices_Index_int_int.f
    rw [show ((0 : Nat) : Int) = 0 from rfl] at he
    rw [he, Option.bind_some, if_pos (by omega), if_pos (by omega), Int.toNat_natCast, hd, List.drop_zero]
  · rw [if_neg ho, if_neg ho]
theorem line_loop14 (L : List Int) (a : Int) (hL : L.length ≤ 100000) : ∀ (d k i : Nat) (out : List Int) (on : Bool), d + i = L.length → d < k → out.length ≤ i → shutterref14_Line.l0 k a out L on i = some (out ++ if on = true then L.drop i else (L.drop i).dropWhile (fun x => x != a))
  | 0, k, i, out, on, hd, hk, ho => by
    obtain ⟨k, rfl⟩ : ∃ m, k = m + 1 := ⟨k - 1, by omega⟩
    rw [shutterref14_Line.l0, if_neg (by omega), List.drop_eq_nil_of_le (by omega)]
    cases on <;> simp
  | d + 1, k, i, out, on, hd, hk, ho => by
    obtain ⟨k, rfl⟩ : ∃ m, k = m + 1 := ⟨k - 1, by omega⟩
    have hi : i < L.length := by omega
    rw [shutterref14_Line.l0, if_pos (by omega), if_pos (by omega), rd_nat_int L i hi, w64 (by omega)]
    have ih := fun on' out' (ho' : out'.length ≤ i + 1) => line_loop14 L a hL d k (i + 1) out' on' (by omega) (by omega) ho'
    rw [Int.natCast_add] at ih
    rw [show ((1 : Nat) : Int) = 1 from rfl] at ih
    rw [List.drop_eq_getElem_cons hi]
    by_cases h : L[i] = a
    · have hd2 : ((L[i] :: L.drop (i + 1)).dropWhile (fun x => x != a)) = L[i] :: L.drop (i + 1) := by
        rw [List.dropWhile_cons, if_neg]
        rw [h]; simp
      rw [if_pos h, if_pos (by omega), ih true _ (by simp; omega), if_pos rfl, hd2]
      cases on <;> simp
    · rw [if_neg h]
      cases on with
      | true => rw [if_pos rfl, if_pos (by omega), ih true _ (by simp; omega), if_pos rfl, if_pos rfl]; simp
      | false => rw [if_neg (by decide), ih false _ (by omega), if_neg (by decide), if_neg (by decide), List.dropWhile_cons, if_pos (by simpa using h)]
theorem rLine_eq (k : Nat) (r c : Int) (l : List S55) (cu : Int) (lo ins : Bool) (a : Int) (hn : l.length ≤ 16383) (h0 : 0 ≤ a) (h1 : a < l.length) (hk : l.length + 2 < k) : shutterref14_Line.f k r c l cu lo ins a = some (rowI l a) := by
  unfold shutterref14_Line.f rowI
  rw [rOpen_eq k r c l cu lo ins a hn h0 h1 hk, Option.bind_some]
  by_cases ho : openI l a = true
  · have hl := cells_len l a
    rw [if_pos ho, if_pos ho, rCells_eq k r c l cu lo ins a hn h0 h1 hk, Option.bind_some]
    have := line_loop14 (cellsI l a) a (by omega) (cellsI l a).length k 0 [] false (by omega) (by omega) (Nat.zero_le _)
    rw [show ((0 : Nat) : Int) = 0 from rfl] at this
    rw [this, if_neg (by decide)]; simp
  · rw [if_neg ho, if_neg ho]
/-- a cell, modified -/
def modC (x : S55) : S55 := ⟨x.f0, ⟨x.f1.f0, x.f1.f1, x.f1.f2, true⟩, x.f2⟩
/-- a cell's field, modified -/
def modI (l : List S55) (a : Int) : List S55 := if 0 ≤ beginI l a then l.set (beginI l a).toNat (modC (rd_T55 l (beginI l a))) else l
theorem modI_length (l : List S55) (a : Int) : (modI l a).length = l.length := by unfold modI; split <;> simp
theorem fModify_eq (r c : Int) (l : List S55) (cu : Int) (lo ins : Bool) (a : Int) (hn : l.length ≤ 16383) (h0 : 0 ≤ a) (h1 : a < l.length) : edit_Modify.f r c l cu lo ins a = some (r, c, modI l a, cu, lo, ins) := by
  unfold edit_Modify.f modI
  rw [fCopy_eq r c l cu lo ins hn, Option.bind_some]
  simp only
  rw [fBegin_eq r c l cu lo ins a hn h0 h1, Option.bind_some]
  rcases begin_range l a (by omega) with hb | ⟨b0, b1, _⟩
  · rw [hb, if_neg (by decide), if_neg (by decide)]
  · rw [if_pos b0, if_pos b0, if_pos b1, if_pos b0]; rfl
theorem rModify_eq (k : Nat) (r c : Int) (l : List S55) (cu : Int) (lo ins : Bool) (a : Int) (hn : l.length ≤ 16383) (h0 : 0 ≤ a) (h1 : a < l.length) (hk : l.length + 2 < k) : shutterref14_Modify.f k r c l cu lo ins a = some (r, c, modI l a, cu, lo, ins) := by
  unfold shutterref14_Modify.f modI
  rw [rCopy_eq r c l cu lo ins hn, Option.bind_some]
  simp only
  rw [rBegin_eq k r c l cu lo ins a hn h0 h1 hk, Option.bind_some]
  rcases begin_range l a (by omega) with hb | ⟨b0, b1, _⟩
  · rw [hb, if_neg (by decide), if_neg (by decide)]
  · rw [if_pos b0, if_pos b0, if_pos b1, if_pos b0]; rfl
theorem fDeny_eq (r c : Int) (l : List S55) (cu : Int) (lo ins : Bool) (n : Int) (x : List S206) (hn : l.length ≤ 16383) : edit_Deny.f r c l cu lo ins (some (Er.num n)) x = some (r, c, l, cu, true, ins, some Er.spot, [⟨cu, n⟩]) := by
  unfold edit_Deny.f; rw [if_pos hn]
theorem rDeny_eq (r c : Int) (l : List S55) (cu : Int) (lo ins : Bool) (hn : l.length ≤ 16383) : shutterref14_Deny.f r c l cu lo ins = some (r, c, l, cu, true, ins) := by
  unfold shutterref14_Deny.f; rw [rCopy_eq r c l cu lo ins hn, Option.bind_some]
theorem digit_same (a : Int) : edit_Digit.f a = shutterref14_Digit.f a := rfl
end Go.Proofs.YtjpedimndkibnaaGreatDoor.P
namespace Go.Proofs.YtjpedimndkibnaaGreatDoor.P
open Go.RowKit Go.Proofs.YtjpedimndkibnaaGreatDoorW.PrintWords Go.Proofs.YtjpedimndkibnaaGreatDoorW.PrintLast
set_option linter.unusedVariables false
set_option linter.unusedSimpArgs false
theorem row_open {l : List S55} {a : Int} (a0 : 0 ≤ a) (a1 : a < l.length) (ho : openI l a = true) :
    (rowI l a).Nodup ∧ (∀ x ∈ rowI l a, 0 ≤ x ∧ x < l.length ∧ isF l x = false ∧ beginI l x = beginI l a) ∧ 0 < (rowI l a).length ∧ rd (rowI l a) 0 = a := by
  obtain ⟨h1, h2, h3⟩ := cells_all l a a0 a1 (open_isF ho)
  have e : rowI l a = (cellsI l a).dropWhile (fun x => x != a) := by unfold rowI; rw [if_pos ho]
  have hsub : (rowI l a).Sublist (cellsI l a) := by rw [e]; exact List.dropWhile_sublist _
  have hhead : ∀ L : List Int, a ∈ L → ∃ t, L.dropWhile (fun x => x != a) = a :: t := by
    intro L
    induction L with
    | nil => intro h; cases h
    | cons x t ih =>
      intro h
      rw [List.dropWhile_cons]
      by_cases hx : x = a
      · subst hx; exact ⟨t, by simp⟩
      · rw [if_pos (by simpa using hx)]
        rcases List.mem_cons.1 h with h | h
        · exact absurd h.symm hx
        · exact ih h
  obtain ⟨t, ht⟩ := hhead _ h1
  refine ⟨h2.sublist hsub, fun x hx => h3 x (hsub.subset hx), ?_, ?_⟩
  · rw [e, ht]; simp
  · rw [e, ht]; rfl
theorem rd_mem (L : List Int) (i : Nat) (hi : i < L.length) : rd L (i : Int) ∈ L := by rw [rd_nat_int L i hi]; exact List.getElem_mem hi
theorem rd_inj {L : List Int} (h : L.Nodup) {i j : Nat} (hi : i < L.length) (hj : j < L.length) (e : rd L (i : Int) = rd L (j : Int)) : i = j := by
  rw [rd_nat_int L i hi, rd_nat_int L j hj] at e
  rcases Nat.lt_trichotomy i j with hij | hij | hij
  · exact absurd e (List.pairwise_iff_getElem.1 h i j hi hj hij)
  · exact hij
  · exact absurd e.symm (List.pairwise_iff_getElem.1 h j i hj hi hij)
theorem modI_rd (l : List S55) (a : Int) (hp : 0 < l.length) (x : Int) (x0 : 0 ≤ x) (h : isF l x = false) : rd_T55 (modI l a) x = rd_T55 l x := by
  unfold modI
  rcases begin_range l a hp with hb | ⟨b0, b1, hF⟩
  · rw [hb, if_neg (by decide)]
  · rw [if_pos b0, rd_set l _ x _ b0 b1 x0, if_neg (fun e => by rw [e, h] at hF; cases hF)]
end Go.Proofs.YtjpedimndkibnaaGreatDoor.P
namespace Go.Proofs.YtjpedimndkibnaaGreatDoor.P
open Go.RowKit Go.Proofs.YtjpedimndkibnaaGreatDoorW.PrintWords Go.Proofs.YtjpedimndkibnaaGreatDoorW.PrintLast
set_option linter.unusedVariables false
set_option linter.unusedSimpArgs false
theorem indexW_from (p : Int → Bool) : ∀ (L : List Int) (i : Int), 0 ≤ i → (indexW p L i = -1 ∧ ∀ x ∈ L, p x = false) ∨ ∃ j : Nat, j < L.length ∧ indexW p L i = i + j ∧ p (rd L j) = true ∧ ∀ m : Nat, m < j → p (rd L m) = false
  | [], i, h => .inl ⟨rfl, fun x hx => by cases hx⟩
  | x :: xs, i, h => by
    unfold indexW
    by_cases hx : p x = true
    · rw [if_pos hx]
      exact .inr ⟨0, by simp, by omega, by simpa [rd] using hx, fun m hm => by omega⟩
    · rw [if_neg hx]
      rcases indexW_from p xs (i + 1) (by omega) with ⟨h1, h2⟩ | ⟨j, h1, h2, h3, h4⟩
      · exact .inl ⟨h1, fun y hy => by
          rcases List.mem_cons.1 hy with rfl | hy
          · simpa using hx
          · exact h2 y hy⟩
      · refine .inr ⟨j + 1, by simpa using h1, by omega, by simpa [rd] using h3, fun m hm => ?_⟩
        cases m with
        | zero => simpa [rd] using hx
        | succ m => have := h4 m (by omega); simpa [rd] using this
/-- the first cell of a line without a character -/
def freeI (l : List S55) (a : Int) : Int := indexW (emptyC l) (rowI l a) 0
theorem free_range (l : List S55) (a : Int) : freeI l a = -1 ∨ ∃ j : Nat, j < (rowI l a).length ∧ freeI l a = j ∧ emptyC l (rd (rowI l a) j) = true ∧ ∀ m : Nat, m < j → emptyC l (rd (rowI l a) m) = false := by
  rcases indexW_from (emptyC l) (rowI l a) 0 (Int.le_refl _) with ⟨h, _⟩ | ⟨j, h1, h2, h3, h4⟩
  · exact .inl h
  · exact .inr ⟨j, h1, by unfold freeI; omega, h3, h4⟩
def shiftD (row : List Int) : Nat → List S55 → List S55
  | 0, L => L
  | x + 1, L => shiftD row x (L.set (rd row ((x + 1 : Nat) : Int)).toNat (rd_T55 L (rd row (x : Int))))
theorem shiftD_length (row : List Int) : ∀ x L, (shiftD row x L).length = L.length
  | 0, L => rfl
  | x + 1, L => by unfold shiftD; rw [shiftD_length row x, List.length_set]
theorem shiftD_rd (row : List Int) (hn : row.Nodup) (n : Nat) (hr : ∀ x ∈ row, 0 ≤ x ∧ x < n) : ∀ (x : Nat) (L : List S55), L.length = n → x < row.length →
    (∀ i : Nat, 1 ≤ i → i ≤ x → rd_T55 (shiftD row x L) (rd row (i : Int)) = rd_T55 L (rd row ((i - 1 : Nat) : Int))) ∧ (∀ y : Int, 0 ≤ y → (∀ i : Nat, 1 ≤ i → i ≤ x → rd row (i : Int) ≠ y) → rd_T55 (shiftD row x L) y = rd_T55 L y)
  | 0, L, hL, hx => ⟨fun i h1 h2 => by omega, fun y _ _ => rfl⟩
  | x + 1, L, hL, hx => by
    have hm := hr _ (rd_mem row (x + 1) hx)
    obtain ⟨i1, i2⟩ := shiftD_rd row hn n hr x (L.set (rd row ((x + 1 : Nat) : Int)).toNat (rd_T55 L (rd row (x : Int)))) (by rw [List.length_set]; exact hL) (by omega)
    have hs := fun y (y0 : 0 ≤ y) => rd_set L (rd row ((x + 1 : Nat) : Int)) y (rd_T55 L (rd row (x : Int))) hm.1 (by omega) y0
    unfold shiftD
    refine ⟨fun i h1 h2 => ?_, fun y y0 hy => ?_⟩
    · by_cases e : i = x + 1
      · subst e
        rw [i2 _ hm.1 (fun j j1 j2 he => by have := rd_inj hn (by omega) hx he; omega), hs _ hm.1, if_pos rfl]
        simp
      · rw [i1 i h1 (by omega), hs _ (hr _ (rd_mem row (i - 1) (by omega))).1, if_neg (fun he => by have := rd_inj hn hx (by omega) he; omega)]
    · rw [i2 y y0 (fun j j1 j2 => hy j j1 (by omega)), hs y y0, if_neg (hy (x + 1) (by omega) (Nat.le_refl _))]
theorem pushed_loop (row : List Int) (hrow : row.length ≤ 16383) (n : Nat) (hr : ∀ x ∈ row, 0 ≤ x ∧ x < n) (r c cu : Int) (lo ins : Bool) : ∀ (x K : Nat) (L : List S55), L.length = n → x < row.length → x < K → edit_pushed.l0 K row x r c L cu lo ins = some (true, shiftD row x L)
  | 0, K, L, hL, hx, hk => by
    obtain ⟨K, rfl⟩ : ∃ m, K = m + 1 := ⟨K - 1, by omega⟩
    rw [edit_pushed.l0, if_neg (by omega)]; rfl
  | x + 1, K, L, hL, hx, hk => by
    obtain ⟨K, rfl⟩ : ∃ m, K = m + 1 := ⟨K - 1, by omega⟩
    have h1 := hr _ (rd_mem row (x + 1) hx)
    have h0 := hr _ (rd_mem row x (by omega))
    have e : wrap64 (((x + 1 : Nat) : Int) - 1) = (x : Int) := by rw [w64 (by omega)]; omega
    rw [edit_pushed.l0, if_pos (by omega), if_pos (by omega), if_pos (by omega), e, if_pos (by omega), if_pos (by omega), if_pos h0.1, if_pos (by omega), if_pos h1.1, if_pos (by omega)]
    exact pushed_loop row hrow n hr r c cu lo ins x K _ (by rw [List.length_set]; exact hL) (by omega) (by omega)
theorem emptyC_mod (l : List S55) (a : Int) (hp : 0 < l.length) (x : Int) (x0 : 0 ≤ x) : emptyC (modI l a) x = emptyC l x := by
  unfold emptyC modI
  rcases begin_range l a hp with hb | ⟨b0, b1, _⟩
  · rw [hb, if_neg (by decide)]
  · rw [if_pos b0, rd_set l _ x _ b0 b1 x0]
    split
    · rename_i h; subst h; rfl
    · rfl
theorem indexW_congr (p q : Int → Bool) : ∀ (L : List Int) (i : Int), (∀ x ∈ L, p x = q x) → indexW p L i = indexW q L i
  | [], i, h => rfl
  | x :: xs, i, h => by
    unfold indexW; rw [h x List.mem_cons_self, indexW_congr p q xs (i + 1) (fun y hy => h y (List.mem_cons_of_mem _ hy))]
/-- the cells, pushed on where it was asked for -/
def pushI (l : List S55) (cu : Int) (ins : Bool) : List S55 := if ins = true then shiftD (rowI l cu) (freeI l cu).toNat (modI l cu) else modI l cu
theorem pushI_length (l : List S55) (cu : Int) (ins : Bool) : (pushI l cu ins).length = l.length := by
  unfold pushI; split
  · rw [shiftD_length, modI_length]
  · exact modI_length l cu
theorem fpushed_eq (K : Nat) (r c : Int) (l : List S55) (cu : Int) (lo ins : Bool) (a : Int) (hn : l.length ≤ 16383) (a0 : 0 ≤ a) (a1 : a < l.length) (ho : openI l a = true) (hk : l.length < K) :
    edit_pushed.f K r c (modI l a) cu lo ins (rowI l a) = some (if freeI l a < 0 then (false, modI l a) else (true, shiftD (rowI l a) (freeI l a).toNat (modI l a))) := by
  obtain ⟨hnd, hr, _, _⟩ := row_open a0 a1 ho
  have hl := row_len l a
  have hml := modI_length l a
  have e : indexW (emptyC (modI l a)) (rowI l a) 0 = freeI l a := indexW_congr _ _ _ _ (fun x hx => emptyC_mod l a (by omega) x (hr x hx).1)
  have hi : pushed_index.f (rowI l a) r c (modI l a) cu lo ins = some (freeI l a) := by
    unfold pushed_index.f
    rw [if_pos (by omega), if_pos (List.all_eq_true.2 (fun x hx => by have := hr x hx; rw [Bool.and_eq_true]; exact ⟨decide_eq_true this.1, decide_eq_true (by omega)⟩)), e]
  unfold edit_pushed.f
  rw [hi, Option.bind_some]
  rcases free_range l a with h | ⟨j, h1, h2, _, _⟩
  · rw [h, if_pos (by decide), if_pos (by decide)]
  · rw [h2, if_neg (by omega), if_neg (by omega), Int.toNat_natCast]
    exact pushed_loop (rowI l a) (by omega) l.length (fun x hx => ⟨(hr x hx).1, (hr x hx).2.1⟩) r c cu lo ins j K _ hml h1 (by omega)
def numI (l : List S55) (i : Int) : Bool := (rd_T55 l i).f1.f1
def onwardI (l : List S55) (cu : Int) : Int :=
  if isF l (onI l.length cu 1) = true then (if protI l (onI l.length cu 1) = true ∧ numI l (onI l.length cu 1) = true ∧ 0 ≤ nextI l (onI l.length cu 1) then nextI l (onI l.length cu 1) else onI l.length (onI l.length cu 1) 1) else onI l.length cu 1
theorem fonward_eq (K : Nat) (r c : Int) (l : List S55) (cu : Int) (lo ins : Bool) (hn : l.length ≤ 16383) (c0 : 0 ≤ cu) (c1 : cu < l.length) (hk : 1 < K) : edit_onward.f K r c l cu lo ins = some (onwardI l cu) := by
  obtain ⟨K, rfl⟩ : ∃ m, K = m + 1 := ⟨K - 1, by omega⟩
  have o0 := onI_nonneg (n := l.length) (by omega) cu 1
  have o1 := onI_lt (n := l.length) (by omega) cu 1
  unfold edit_onward.f onwardI isF protI numI
  rw [fOn_eq r c l cu lo ins cu 1 hn c0 c1, Option.bind_some, if_pos o0, if_pos o1]
  by_cases hF : (rd_T55 l (onI l.length cu 1)).f0 = true
  · rw [if_pos hF, if_pos hF]
    by_cases hP : (rd_T55 l (onI l.length cu 1)).f1.f0 = true
    · rw [if_pos hP, edit_onward.j0]
      by_cases hN : (rd_T55 l (onI l.length cu 1)).f1.f1 = true
      · rw [if_pos hN, fNext_eq r c l cu lo ins _ hn o0 o1, Option.bind_some]
        by_cases hx : nextI l (onI l.length cu 1) ≥ 0
        · rw [if_pos hx, if_pos ⟨hP, hN, hx⟩]
        · rw [if_neg hx, if_neg (fun h => hx h.2.2), fOn_eq r c l cu lo ins _ 1 hn o0 o1, Option.bind_some]
      · rw [if_neg hN, if_neg (fun h => hN h.2.1), fOn_eq r c l cu lo ins _ 1 hn o0 o1, Option.bind_some]
    · rw [if_neg hP, edit_onward.j0, if_neg (by decide), if_neg (fun h => hP h.1), fOn_eq r c l cu lo ins _ 1 hn o0 o1, Option.bind_some]
  · rw [if_neg hF, if_neg hF]
def letterI (a : Int) : Bool := !(a == 0) && (a == 28 || (a == 30 || (decide (64 ≤ a) && decide (a ≤ 254))))
theorem rLetter_eq (a : Int) (a0 : 0 ≤ a) (a1 : a ≤ 255) : shutterref09_Letter.f a = some (letterI a) := by
  unfold shutterref09_Letter.f letterI shutterref05_Char.f
  by_cases e0 : a = 0
  · rw [if_pos e0]; simp [e0]
  · by_cases e1 : a = 28
    · subst e1; rfl
    · by_cases e2 : a = 30
      · subst e2; rfl
      · by_cases e3 : a ≥ 64
        · rw [if_neg e0, if_neg e0, if_neg e1, if_neg e2, if_pos e3, Option.bind_some]
          congr 1
          rw [beq_eq_false_iff_ne.2 e0, beq_eq_false_iff_ne.2 e1, beq_eq_false_iff_ne.2 e2, decide_eq_true (show 64 ≤ a from e3)]
          simp
        · rw [if_neg e0, if_neg e0, if_neg e1, if_neg e2, if_neg e3, Option.bind_some, beq_eq_false_iff_ne.2 e1, beq_eq_false_iff_ne.2 e2, decide_eq_false (show ¬ 64 ≤ a from e3)]; simp
theorem fChar_eq (a : Int) (a0 : 0 ≤ a) (a1 : a ≤ 255) (h : ¬ a = 0) : attr_Char.f a = some (letterI a) := by
  have := rLetter_eq a a0 a1
  unfold shutterref09_Letter.f at this
  rw [if_neg h] at this
  rw [← this]
  unfold attr_Char.f shutterref05_Char.f
  by_cases e1 : a = 28
  · subst e1; rfl
  · by_cases e2 : a = 30
    · subst e2; rfl
    · by_cases e3 : a ≥ 64
      · rw [if_neg h, if_neg e1, if_neg e2, if_pos e3, if_neg h, if_neg e1, if_neg e2, if_pos e3, Option.bind_some]
        congr 1
        by_cases e4 : a = 255
        · subst e4; rfl
        · rw [bne_iff_ne.2 e4]; simp; omega
      · rw [if_neg h, if_neg e1, if_neg e2, if_neg e3, if_neg h, if_neg e1, if_neg e2, if_neg e3]; rfl
def digitI (a : Int) : Bool := (decide (240 ≤ a) && decide (a ≤ 249)) || (a == 96 || a == 75)
theorem digit_eq (a : Int) : edit_Digit.f a = some (digitI a) := by
  unfold edit_Digit.f digitI
  by_cases h1 : a ≥ 240
  · by_cases h2 : a ≤ 249
    · rw [if_pos h1, if_pos h2, decide_eq_true (show 240 ≤ a from h1), decide_eq_true h2]; rfl
    · rw [if_pos h1, if_neg h2, if_neg (by omega), decide_eq_false h2]; simp; omega
  · rw [if_neg h1, decide_eq_false (show ¬ 240 ≤ a from h1)]
    by_cases h3 : a = 96
    · rw [if_pos h3, h3]; rfl
    · rw [if_neg h3, beq_eq_false_iff_ne.2 h3]; simp
/-- why a letter is refused; 0: it isn't -/
def whyI (l : List S55) (cu : Int) (lo ins : Bool) (a : Int) : Int :=
  if letterI a = false then 3 else if lo = true then 7 else if openI l cu = false then 8
  else if (ofI l cu).f1 = true ∧ digitI a = false ∧ a ≠ 28 ∧ a ≠ 30 then 9 else if ins = true ∧ freeI l cu < 0 then 10 else 0
/-- the cells behind a letter that is typed -/
def outI (l : List S55) (cu : Int) (ins : Bool) (a : Int) : List S55 := (pushI l cu ins).set (cu : Int).toNat (newC a)
theorem outI_length (l : List S55) (cu : Int) (ins : Bool) (a : Int) : (outI l cu ins a).length = l.length := by unfold outI; rw [List.length_set, pushI_length]
def typeF (r c : Int) (l : List S55) (cu : Int) (lo ins : Bool) (a : Int) : Int × Int × List S55 × Int × Bool × Bool × Option Er × List S206 :=
  if whyI l cu lo ins a = 0 then (r, c, outI l cu ins a, onwardI (outI l cu ins a) cu, lo, ins, none, [])
  else if whyI l cu lo ins a = 3 ∨ whyI l cu lo ins a = 7 then (r, c, l, cu, lo, ins, some (Er.num (whyI l cu lo ins a)), [])
  else (r, c, l, cu, true, ins, some Er.spot, [⟨cu, whyI l cu lo ins a⟩])
theorem ffits_eq (K : Nat) (r c : Int) (l : List S55) (cu : Int) (lo ins : Bool) (a : Int) (hn : l.length ≤ 16383) (c0 : 0 ≤ cu) (c1 : cu < l.length) (hk : 1 < K) :
    edit_fits.f K r c l cu lo ins a = some (if openI l cu = false then some (Er.num 8) else if (ofI l cu).f1 = true ∧ digitI a = false ∧ a ≠ 28 ∧ a ≠ 30 then some (Er.num 9) else none, []) := by
  obtain ⟨K, rfl⟩ : ∃ m, K = m + 1 := ⟨K - 1, by omega⟩
  unfold edit_fits.f
  rw [fOpen_eq r c l cu lo ins cu hn c0 c1, Option.bind_some]
  cases ho : openI l cu with
  | false => rw [if_neg ff_, if_pos rfl]
  | true =>
    rw [if_pos rfl, if_neg tf_]
    have hj : ∀ b, edit_fits.j0 (K + 1) a b r c l cu lo ins = some (if b = true then none else if (ofI l cu).f1 = true ∧ digitI a = false then some (Er.num 9) else none, []) := by
      intro b
      rw [edit_fits.j0]
      cases b with
      | true => rfl
      | false =>
        rw [if_neg ff_, if_neg ff_, fOf_eq r c l cu lo ins cu hn c0 c1, Option.bind_some, digit_eq, Option.bind_some]
        simp only
        by_cases h1 : (ofI l cu).f1 = true
        · rw [if_pos h1]
          cases hd : digitI a
          · rw [if_neg ff_, if_pos ⟨h1, rfl⟩]
          · rw [if_pos rfl, if_neg (fun h => by cases h.2)]
        · rw [if_neg h1, if_neg (fun h => h1 h.1)]
    by_cases h28 : a = 28
    · rw [if_pos h28, hj, if_pos rfl, if_neg (fun h => h.2.2.1 h28)]
    · rw [if_neg h28, hj]
      by_cases h30 : a = 30
      · rw [if_pos (by simp [h30]), if_neg (fun h => h.2.2.2 h30)]
      · rw [if_neg (by simpa using h30)]
        by_cases h : (ofI l cu).f1 = true ∧ digitI a = false
        · rw [if_pos h, if_pos ⟨h.1, h.2, h28, h30⟩]
        · rw [if_neg h, if_neg (fun h' => h ⟨h'.1, h'.2.1⟩)]
theorem fType_eq (K : Nat) (r c : Int) (l : List S55) (cu : Int) (lo ins : Bool) (a : Int) (hn : l.length ≤ 16383) (c0 : 0 ≤ cu) (c1 : cu < l.length) (a0 : 0 ≤ a) (a1 : a ≤ 255) (hk : l.length + 4 < K) : edit_Type.f K r c l cu lo ins a = some (typeF r c l cu lo ins a) := by
  obtain ⟨K, rfl⟩ : ∃ m, K = m + 1 := ⟨K - 1, by omega⟩
  have hj1 : ∀ b, edit_Type.j1 K a b r c l cu lo ins r c (pushI l cu ins) cu lo ins = if b = true then some (r, c, l, cu, true, ins, some Er.spot, [⟨cu, 10⟩]) else some (r, c, outI l cu ins a, onwardI (outI l cu ins a) cu, lo, ins, none, []) := by
    intro b
    obtain ⟨K, rfl⟩ : ∃ m, K = m + 1 := ⟨K - 1, by omega⟩
    rw [edit_Type.j1]
    cases b with
    | true => rw [if_pos rfl, if_pos rfl, fDeny_eq r c l cu lo ins 10 [] hn, Option.bind_some]
    | false =>
      rw [if_neg ff_, if_neg ff_, if_pos c0, if_pos (by rw [pushI_length]; exact c1), Option.bind_some]
      have := fonward_eq K r c (outI l cu ins a) cu lo ins (by rw [outI_length]; exact hn) c0 (by rw [outI_length]; exact c1) (by omega)
      unfold outI newC at this ⊢
      rw [this, Option.bind_some]
  have hj : ∀ b, edit_Type.j0 (K + 1) a b r c l cu lo ins = some (if b = true then (r, c, l, cu, lo, ins, some (Er.num 3), []) else if lo = true then (r, c, l, cu, lo, ins, some (Er.num 7), []) else if openI l cu = false then (r, c, l, cu, true, ins, some Er.spot, [⟨cu, 8⟩]) else if (ofI l cu).f1 = true ∧ digitI a = false ∧ a ≠ 28 ∧ a ≠ 30 then (r, c, l, cu, true, ins, some Er.spot, [⟨cu, 9⟩]) else if ins = true ∧ freeI l cu < 0 then (r, c, l, cu, true, ins, some Er.spot, [⟨cu, 10⟩]) else (r, c, outI l cu ins a, onwardI (outI l cu ins a) cu, lo, ins, none, [])) := by
    intro b
    rw [edit_Type.j0]
    cases b with
    | true => rw [if_pos rfl, if_pos rfl]
    | false =>
      rw [if_neg ff_, if_neg ff_]
      cases lo with
      | true => rfl
      | false =>
        rw [if_neg ff_, if_neg ff_, ffits_eq K r c l cu false ins a hn c0 c1 (by omega), Option.bind_some]
        simp only
        cases ho : openI l cu with
        | false => rw [if_pos rfl, if_pos rfl, if_neg (show ¬ ((some (Er.num 8)).isNone = true) by simp), show ((some (Er.num 8)).getD ez) = Er.num 8 from rfl, fDeny_eq r c l cu false ins 8 _ hn, Option.bind_some]
        | true =>
          rw [if_neg tf_, if_neg tf_]
          by_cases h9 : (ofI l cu).f1 = true ∧ digitI a = false ∧ a ≠ 28 ∧ a ≠ 30
          · rw [if_pos h9, if_pos h9, if_neg (show ¬ ((some (Er.num 9)).isNone = true) by simp), show ((some (Er.num 9)).getD ez) = Er.num 9 from rfl, fDeny_eq r c l cu false ins 9 _ hn, Option.bind_some]
          · rw [if_neg h9, if_neg h9, if_pos (show ((none : Option Er).isNone = true) by rfl), fModify_eq r c l cu false ins cu hn c0 c1, Option.bind_some]
            simp only
            cases ins with
            | false =>
              rw [if_neg ff_, if_neg (fun h => ff_ h.1)]
              have := hj1 false
              unfold pushI at this
              rw [if_neg ff_] at this
              rw [this, if_neg ff_]
            | true =>
              rw [if_pos rfl, fLine_eq K r c l cu false true cu hn c0 c1 (by omega), Option.bind_some, fpushed_eq K r c l cu false true cu hn c0 c1 ho (by omega), Option.bind_some]
              by_cases hf : freeI l cu < 0
              · rw [if_pos hf, if_pos ⟨rfl, hf⟩]
                have e : ∀ L, edit_Type.j1 K a true r c l cu false true r c L cu false true = some (r, c, l, cu, true, true, some Er.spot, [⟨cu, 10⟩]) := by
                  intro L
                  obtain ⟨K, rfl⟩ : ∃ m, K = m + 1 := ⟨K - 1, by omega⟩
                  rw [edit_Type.j1, if_pos rfl, fDeny_eq r c l cu false true 10 [] hn, Option.bind_some]
                exact e _
              · rw [if_neg hf, if_neg (fun h => hf h.2)]
                have := hj1 false
                unfold pushI at this
                rw [if_pos rfl] at this
                rw [if_neg ff_] at this
                exact this
  unfold edit_Type.f
  have hfin : ∀ b, b = !(letterI a) → edit_Type.j0 (K + 1) a b r c l cu lo ins = some (typeF r c l cu lo ins a) := by
    intro b hb
    subst hb
    rw [hj]
    unfold typeF whyI
    cases letterI a with
    | false => simp
    | true =>
      cases lo with
      | true => simp
      | false =>
        cases openI l cu with
        | false => simp
        | true =>
          by_cases h9 : (ofI l cu).f1 = true ∧ digitI a = false ∧ a ≠ 28 ∧ a ≠ 30
          · simp [h9]
          · by_cases h10 : ins = true ∧ freeI l cu < 0
            · simp only [h9, h10]; simp
            · simp only [h9, h10]; simp
  by_cases e0 : a = 0
  · rw [if_pos e0]; exact hfin true (by subst e0; rfl)
  · rw [if_neg e0, fChar_eq a a0 a1 e0, Option.bind_some]; exact hfin _ rfl
end Go.Proofs.YtjpedimndkibnaaGreatDoor.P
namespace Go.Proofs.YtjpedimndkibnaaGreatDoor.P
open Go.RowKit Go.Proofs.YtjpedimndkibnaaGreatDoorW.PrintWords Go.Proofs.YtjpedimndkibnaaGreatDoorW.PrintLast
set_option linter.unusedVariables false
set_option linter.unusedSimpArgs false
def charC (c : S55) (v : Int) : S55 := ⟨c.f0, ⟨c.f1.f0, c.f1.f1, c.f1.f2, c.f1.f3⟩, v⟩
def sweep (p : Int → Bool) (g : S55 → S55) : Nat → Int → List S55 → List S55
  | 0, _, a => a
  | d + 1, x, a => sweep p g d (x + 1) (if p x = true then a.set (x : Int).toNat (g (rd_T55 a x)) else a)
theorem sweep_length (p : Int → Bool) (g : S55 → S55) : ∀ d x a, (sweep p g d x a).length = a.length
  | 0, x, a => rfl
  | d + 1, x, a => by
    unfold sweep; rw [sweep_length p g d]; split
    · rw [List.length_set]
    · rfl
theorem sweep_rd (p : Int → Bool) (g : S55 → S55) : ∀ (d : Nat) (x : Int) (a : List S55), 0 ≤ x → x + d ≤ a.length → ∀ y : Int, 0 ≤ y → rd_T55 (sweep p g d x a) y = if x ≤ y ∧ y < x + d ∧ p y = true then g (rd_T55 a y) else rd_T55 a y
  | 0, x, a, x0, hx, y, y0 => by rw [if_neg (by omega)]; rfl
  | d + 1, x, a, x0, hx, y, y0 => by
    unfold sweep
    have hl : (if p x = true then a.set (x : Int).toNat (g (rd_T55 a x)) else a).length = a.length := by split <;> simp
    rw [sweep_rd p g d (x + 1) _ (by omega) (by rw [hl]; omega) y y0]
    by_cases hp : p x = true
    · rw [if_pos hp, rd_set a x y _ x0 (by omega) y0]
      by_cases e : x = y
      · subst e; rw [if_neg (by omega), if_pos rfl, if_pos ⟨by omega, by omega, hp⟩]
      · rw [if_neg e]
        by_cases h : x + 1 ≤ y ∧ y < x + 1 + d ∧ p y = true
        · rw [if_pos h, if_pos ⟨by omega, by omega, h.2.2⟩]
        · rw [if_neg h, if_neg (fun h' => h ⟨by omega, by omega, h'.2.2⟩)]
    · rw [if_neg hp]
      by_cases h : x + 1 ≤ y ∧ y < x + 1 + d ∧ p y = true
      · rw [if_pos h, if_pos ⟨by omega, by omega, h.2.2⟩]
      · rw [if_neg h, if_neg (fun h' => h ⟨by
          have : x ≠ y := fun e => hp (by rw [e]; exact h'.2.2)
          omega, by omega, h'.2.2⟩)]
theorem rd_map (all : Bool) (l : List S55) (y : Int) (y0 : 0 ≤ y) (y1 : y < l.length) : rd_T55 (l.map (resetC all)) y = resetC all (rd_T55 l y) := by
  obtain ⟨m, rfl⟩ := Int.eq_ofNat_of_zero_le y0
  rw [rd_nat l m (by omega), rd_nat _ m (by rw [List.length_map]; omega), List.getElem_map]
/-- all input erased -/
def allI (l : List S55) : List S55 := sweep (openI l) (fun c => charC c 0) l.length 0 (l.map (resetC false))
theorem allI_length (l : List S55) : (allI l).length = l.length := by unfold allI; rw [sweep_length, List.length_map]
/-- the first open cell -/
def homeI (l : List S55) : Int := mx 0 (nextI l ((l.length : Int) - 1))
theorem fall_loop (r c : Int) (l : List S55) (cu : Int) (lo ins : Bool) (hn : l.length ≤ 16383) (hp : 0 < l.length) (r' c' cu' : Int) (lo' ins' : Bool) : ∀ (d K : Nat) (x : Int) (a : List S55), 0 ≤ x → x + d = l.length → a.length = l.length → d < K →
    wipe_all.l0 K (l.length : Int) x r c l cu lo ins r' c' a cu' lo' ins' = some (r', c', sweep (openI l) (fun c => charC c 0) d x a, homeI l, lo', ins')
  | 0, K, x, a, x0, hx, ha, hk => by
    obtain ⟨K, rfl⟩ : ∃ m, K = m + 1 := ⟨K - 1, by omega⟩
    rw [wipe_all.l0, if_neg (by omega)]
    unfold grid_Size.f
    rw [Option.bind_some, w64 (by omega), fNext_eq r c l cu lo ins _ hn (by omega) (by omega), Option.bind_some]; rfl
  | d + 1, K, x, a, x0, hx, ha, hk => by
    obtain ⟨K, rfl⟩ : ∃ m, K = m + 1 := ⟨K - 1, by omega⟩
    rw [wipe_all.l0, if_pos (by omega), fOpen_eq r c l cu lo ins x hn x0 (by omega), Option.bind_some, w64 (by omega)]
    unfold sweep
    by_cases h : openI l x = true
    · rw [if_pos h, if_pos x0, if_pos (by omega), if_pos h]
      exact fall_loop r c l cu lo ins hn hp r' c' cu' lo' ins' d K (x + 1) _ (by omega) (by omega) (by rw [List.length_set]; exact ha) (by omega)
    · rw [if_neg h, if_neg h]
      exact fall_loop r c l cu lo ins hn hp r' c' cu' lo' ins' d K (x + 1) a (by omega) (by omega) ha (by omega)
theorem fall_eq (K : Nat) (r c : Int) (l : List S55) (cu : Int) (lo ins : Bool) (hn : l.length ≤ 16383) (hp : 0 < l.length) (hk : l.length < K) : wipe_all.f K r c l cu lo ins = some (r, c, allI l, homeI l, lo, ins) := by
  unfold wipe_all.f host_Reset.f
  rw [if_pos hn, Option.bind_some]
  exact fall_loop r c l cu lo ins hn hp r c cu lo ins l.length K 0 _ (by omega) (by omega) (by rw [List.length_map]) hk
def wipeV (kind : Int) (l : List S55) (row : List Int) (x : Int) : Int := if kind = 12 ∧ x + 1 < row.length then (rd_T55 l (rd row (x + 1))).f2 else 0
def wipeL (v : Int → Int) (row : List Int) : Nat → Int → List S55 → List S55
  | 0, _, a => a
  | d + 1, x, a => wipeL v row d (x + 1) (a.set (rd row x).toNat (charC (rd_T55 a (rd row x)) (v x)))
theorem wipeL_length (v : Int → Int) (row : List Int) : ∀ d x a, (wipeL v row d x a).length = a.length
  | 0, x, a => rfl
  | d + 1, x, a => by unfold wipeL; rw [wipeL_length v row d, List.length_set]
theorem fwl_loop (row : List Int) (hrow : row.length ≤ 16383) (r c : Int) (l : List S55) (cu : Int) (lo ins : Bool) (hr : ∀ x ∈ row, 0 ≤ x ∧ x < l.length) (kind : Int) (r' c' cu' : Int) (lo' ins' : Bool) : ∀ (d K x : Nat) (a : List S55), x + d = row.length → a.length = l.length → d < K →
    wipe_Do.l0 K kind row row (row.length : Int) (x : Int) r c l cu lo ins r' c' a cu' lo' ins' = some (r', c', wipeL (wipeV kind l row) row d (x : Int) a, cu', lo', ins', none, [])
  | 0, K, x, a, hx, ha, hk => by
    obtain ⟨K, rfl⟩ : ∃ m, K = m + 1 := ⟨K - 1, by omega⟩
    rw [wipe_Do.l0, if_neg (by omega)]; rfl
  | d + 1, K, x, a, hx, ha, hk => by
    obtain ⟨K, rfl⟩ : ∃ m, K = m + 1 := ⟨K - 1, by omega⟩
    have hm := hr _ (rd_mem row x (by omega))
    have ex : wrap64 ((x : Int) + 1) = ((x + 1 : Nat) : Int) := by rw [w64 (by omega)]; omega
    have ex2 : ((x : Int) + 1) = ((x + 1 : Nat) : Int) := by omega
    rw [wipe_Do.l0, if_pos (by omega), if_pos (by omega), if_pos (by omega), if_pos hm.1, if_pos (by omega), Option.bind_some, ex]
    unfold wipeL
    rw [ex2]
    by_cases h12 : kind = 12
    · rw [if_pos h12]
      by_cases hlt : ((x + 1 : Nat) : Int) < (row.length : Int)
      · have hm1 := hr _ (rd_mem row (x + 1) (by omega))
        rw [if_pos hlt, if_pos (by omega), if_pos hm1.1, if_pos (by omega), rd_set a _ _ _ hm.1 (by omega) hm.1, if_pos rfl, List.set_set]
        rw [show wipeV kind l row (x : Int) = (rd_T55 l (rd row ((x + 1 : Nat) : Int))).f2 by unfold wipeV; rw [if_pos ⟨h12, by omega⟩, ex2]]
        exact fwl_loop row hrow r c l cu lo ins hr kind r' c' cu' lo' ins' d K (x + 1) _ (by omega) (by rw [List.length_set]; exact ha) (by omega)
      · rw [if_neg hlt, show wipeV kind l row (x : Int) = 0 by unfold wipeV; rw [if_neg (by omega)]]
        exact fwl_loop row hrow r c l cu lo ins hr kind r' c' cu' lo' ins' d K (x + 1) _ (by omega) (by rw [List.length_set]; exact ha) (by omega)
    · rw [if_neg h12, show wipeV kind l row (x : Int) = 0 by unfold wipeV; rw [if_neg (fun h => h12 h.1)]]
      exact fwl_loop row hrow r c l cu lo ins hr kind r' c' cu' lo' ins' d K (x + 1) _ (by omega) (by rw [List.length_set]; exact ha) (by omega)
/-- why a key that wipes is refused; 0: it isn't -/
def wipeW (l : List S55) (cu : Int) (lo : Bool) (kind : Int) : Int := if kind < 12 ∨ kind > 14 then 1 else if lo = true then 7 else if kind = 14 then 0 else if openI l cu = true then 0 else 8
/-- the cells behind a key that wipes -/
def wipeI (l : List S55) (cu kind : Int) : List S55 := if kind = 14 then allI l else wipeL (wipeV kind l (rowI l cu)) (rowI l cu) (rowI l cu).length 0 (modI l cu)
theorem wipeI_length (l : List S55) (cu kind : Int) : (wipeI l cu kind).length = l.length := by
  unfold wipeI; split
  · exact allI_length l
  · rw [wipeL_length, modI_length]
def wipeF (r c : Int) (l : List S55) (cu : Int) (lo ins : Bool) (kind : Int) : Int × Int × List S55 × Int × Bool × Bool × Option Er × List S206 :=
  if wipeW l cu lo kind = 0 then (r, c, wipeI l cu kind, if kind = 14 then homeI l else cu, lo, ins, none, []) else if wipeW l cu lo kind = 8 then (r, c, l, cu, true, ins, some Er.spot, [⟨cu, 8⟩]) else (r, c, l, cu, lo, ins, some (Er.num (wipeW l cu lo kind)), [])
theorem fwipes_eq (kind : Int) : wipe_Wipes.f kind = some (decide (12 ≤ kind ∧ kind ≤ 14)) := by
  unfold wipe_Wipes.f
  by_cases h : kind ≥ 12
  · rw [if_pos h]; congr 1
    by_cases h2 : kind ≤ 14
    · rw [decide_eq_true h2, decide_eq_true ⟨h, h2⟩]
    · rw [decide_eq_false h2, decide_eq_false (fun h' => h2 h'.2)]
  · rw [if_neg h, decide_eq_false (fun h' => h h'.1)]
theorem fwipe_eq (K : Nat) (r c : Int) (l : List S55) (cu : Int) (lo ins : Bool) (kind : Int) (hn : l.length ≤ 16383) (c0 : 0 ≤ cu) (c1 : cu < l.length) (hk : l.length < K) : wipe_Do.f K r c l cu lo ins kind = some (wipeF r c l cu lo ins kind) := by
  unfold wipe_Do.f wipeF wipeW
  rw [fwipes_eq, Option.bind_some]
  by_cases h1 : kind < 12 ∨ kind > 14
  · rw [decide_eq_false (by omega), if_neg (by decide)]
    simp only [if_pos h1]; rfl
  · rw [decide_eq_true (by omega), if_pos rfl]
    simp only [if_neg h1]
    cases lo with
    | true => simp only [if_true]; rfl
    | false =>
      simp only [Bool.false_eq_true, if_false]
      by_cases h14 : kind = 14
      · simp only [if_pos h14]
        rw [fall_eq K r c l cu false ins hn (by omega) hk, Option.bind_some]
        unfold wipeI; rw [if_pos h14]; rfl
      · simp only [if_neg h14]
        rw [fOpen_eq r c l cu false ins cu hn c0 c1, Option.bind_some]
        by_cases ho : openI l cu = true
        · simp only [if_pos ho]
          rw [fLine_eq K r c l cu false ins cu hn c0 c1 hk, Option.bind_some, fModify_eq r c l cu false ins cu hn c0 c1, Option.bind_some]
          obtain ⟨_, hr, _, _⟩ := row_open c0 c1 ho
          have hl := row_len l cu
          have := fwl_loop (rowI l cu) (by omega) r c l cu false ins (fun x hx => ⟨(hr x hx).1, (hr x hx).2.1⟩) kind r c cu false ins (rowI l cu).length K 0 (modI l cu) (by omega) (modI_length l cu) (by omega)
          rw [show ((0 : Nat) : Int) = 0 from rfl] at this
          unfold wipeI; rw [if_neg h14]
          exact this
        · simp only [if_neg ho]
          rw [fDeny_eq r c l cu false ins 8 [] hn, Option.bind_some]; rfl
end Go.Proofs.YtjpedimndkibnaaGreatDoor.P
namespace Go.Proofs.YtjpedimndkibnaaGreatDoor.P
open Go.RowKit Go.Proofs.YtjpedimndkibnaaGreatDoorW.PrintWords Go.Proofs.YtjpedimndkibnaaGreatDoorW.PrintLast
set_option linter.unusedVariables false
set_option linter.unusedSimpArgs false
/-- what a call hands back of a screen, and of an error -/
abbrev ScrE := Int × Int × List S55 × Int × Bool × Bool × Option Er × List S206
def moveW (lo : Bool) (kind : Int) : Int := if kind < 2 ∨ 9 < kind then 1 else if lo = true then 7 else 0
def moveF (r c : Int) (l : List S55) (cu : Int) (lo ins : Bool) (kind : Int) : ScrE :=
  if moveW lo kind = 0 then (r, c, l, toI c l cu kind, lo, ins, none, []) else (r, c, l, cu, lo, ins, some (Er.num (moveW lo kind)), [])
theorem fmove_eq (k : Nat) (r c : Int) (l : List S55) (cu : Int) (lo ins : Bool) (kind : Int) (h : RightI r c l cu) (hk : l.length + 3 < k) : move_Do.f k r c l cu lo ins kind = some (moveF r c l cu lo ins kind) := by
  have hb := prod_bd h.r1 h.r2 h.c1 h.c2
  have hn : l.length ≤ 16383 := by have := h.len; have := h.rc; omega
  unfold move_Do.f move_Moves.f moveF moveW
  by_cases h1 : kind ≥ 2
  · rw [if_pos h1, Option.bind_some]
    by_cases h2 : kind ≤ 9
    · rw [decide_eq_true h2, if_pos rfl]
      simp only [if_neg (show ¬ (kind < 2 ∨ 9 < kind) by omega)]
      cases lo with
      | true => simp only [if_true]; rfl
      | false =>
        rw [if_neg (show ¬ (false = true) by decide), grid_Copy_eq r c l cu false ins hn, Option.bind_some, fTo_eq k r c l cu false ins kind h hk, Option.bind_some]; rfl
    · rw [decide_eq_false h2, if_neg (by decide)]
      simp only [if_pos (show kind < 2 ∨ 9 < kind by omega)]; rfl
  · rw [if_neg h1, Option.bind_some, if_neg (by decide)]
    simp only [if_pos (show kind < 2 ∨ 9 < kind by omega)]; rfl
def dupF (r c : Int) (l : List S55) (cu : Int) (lo ins : Bool) : ScrE :=
  if whyI l cu lo ins 28 = 0 then (r, c, outI l cu ins 28, mx 0 (nextI (outI l cu ins 28) cu), lo, ins, none, []) else typeF r c l cu lo ins 28
theorem fdup_eq (K : Nat) (r c : Int) (l : List S55) (cu : Int) (lo ins : Bool) (hn : l.length ≤ 16383) (c0 : 0 ≤ cu) (c1 : cu < l.length) (hk : l.length + 4 < K) : keys_dup.f K r c l cu lo ins = some (dupF r c l cu lo ins) := by
  unfold keys_dup.f dupF
  rw [fType_eq K r c l cu lo ins 28 hn c0 c1 (by decide) (by decide) hk, Option.bind_some]
  have ho := outI_length l cu ins 28
  by_cases h : whyI l cu lo ins 28 = 0
  · unfold typeF
    simp only [if_pos h]
    refine pos_ rfl ?_
    rw [fNext_eq r c (outI l cu ins 28) _ lo ins cu (by omega) c0 (by omega), Option.bind_some]
  · simp only [if_neg h]
    unfold typeF
    simp only [if_neg h]
    split <;> rfl
def setW (lo : Bool) (kind : Int) : Bool := kind == 15 && lo
def setF (r c : Int) (l : List S55) (cu : Int) (lo ins : Bool) (kind : Int) : ScrE :=
  if setW lo kind = true then (r, c, l, cu, lo, ins, some (Er.num 7), []) else (r, c, l, cu, if kind = 16 then false else lo, kind == 15, none, [])
theorem fset_eq (K : Nat) (r c : Int) (l : List S55) (cu : Int) (lo ins : Bool) (kind : Int) (hn : l.length ≤ 16383) (hk : 0 < K) : keys_set.f K r c l cu lo ins kind = some (setF r c l cu lo ins kind) := by
  obtain ⟨K, rfl⟩ : ∃ m, K = m + 1 := ⟨K - 1, by omega⟩
  unfold keys_set.f setF setW
  by_cases h : kind = 15
  · subst h
    rw [if_pos rfl, keys_set.j0]
    cases lo with
    | true => rfl
    | false =>
      rw [if_neg (by decide), grid_Copy_eq r c l cu false ins hn, Option.bind_some]; rfl
  · have hb := beq_eq_false_iff_ne.2 h
    rw [if_neg h, keys_set.j0, if_neg ff_, grid_Copy_eq r c l cu lo ins hn, Option.bind_some]
    simp only [hb, Bool.false_and, Bool.false_eq_true, if_false]
    by_cases h2 : kind = 16
    · simp only [if_pos h2]
    · simp only [if_neg h2]
def plainF (r c : Int) (l : List S55) (cu : Int) (lo ins : Bool) (kind ch : Int) : ScrE :=
  if 2 ≤ kind ∧ kind ≤ 9 then moveF r c l cu lo ins kind else if 12 ≤ kind ∧ kind ≤ 14 then wipeF r c l cu lo ins kind
  else if kind = 11 then typeF r c l cu lo ins 30 else if kind = 1 then typeF r c l cu lo ins ch else if kind = 10 then dupF r c l cu lo ins
  else if kind = 15 ∨ kind = 16 then setF r c l cu lo ins kind else (r, c, l, cu, lo, ins, some (Er.num 1), [])
theorem fmoves_eq (kind : Int) : move_Moves.f kind = some (decide (2 ≤ kind ∧ kind ≤ 9)) := by
  unfold move_Moves.f
  by_cases h : kind ≥ 2
  · rw [if_pos h]; congr 1
    by_cases h2 : kind ≤ 9
    · rw [decide_eq_true h2, decide_eq_true ⟨h, h2⟩]
    · rw [decide_eq_false h2, decide_eq_false (fun h' => h2 h'.2)]
  · rw [if_neg h, decide_eq_false (fun h' => h h'.1)]
theorem fplain_eq (K : Nat) (r c : Int) (l : List S55) (cu : Int) (lo ins : Bool) (kind ch : Int) (h : RightI r c l cu) (a0 : 0 ≤ ch) (a1 : ch ≤ 255) (hk : l.length + 5 < K) : keys_plain.f K r c l cu lo ins kind ch = some (plainF r c l cu lo ins kind ch) := by
  have hn : l.length ≤ 16383 := by have := h.len; have := h.rc; omega
  have c0 := h.cu0
  have c1 := h.cu1
  unfold keys_plain.f plainF
  rw [fmoves_eq, Option.bind_some]
  by_cases h1 : 2 ≤ kind ∧ kind ≤ 9
  · rw [decide_eq_true h1, if_pos rfl, if_pos h1, fmove_eq K r c l cu lo ins kind h (by omega), Option.bind_some]
  · rw [decide_eq_false h1, if_neg (by decide), if_neg h1, fwipes_eq, Option.bind_some]
    by_cases h2 : 12 ≤ kind ∧ kind ≤ 14
    · rw [decide_eq_true h2, if_pos rfl, if_pos h2, fwipe_eq K r c l cu lo ins kind hn c0 c1 (by omega), Option.bind_some]
    · rw [decide_eq_false h2, if_neg (by decide), if_neg h2]
      by_cases h3 : kind = 11
      · rw [if_pos h3, if_pos h3, fType_eq K r c l cu lo ins 30 hn c0 c1 (by decide) (by decide) (by omega), Option.bind_some]
      · rw [if_neg h3, if_neg h3]
        by_cases h4 : kind = 1
        · rw [if_pos h4, if_pos h4, fType_eq K r c l cu lo ins ch hn c0 c1 a0 a1 (by omega), Option.bind_some]
        · rw [if_neg h4, if_neg h4]
          by_cases h5 : kind = 10
          · rw [if_pos h5, if_pos h5, fdup_eq K r c l cu lo ins hn c0 c1 (by omega), Option.bind_some]
          · rw [if_neg h5, if_neg h5]
            obtain ⟨K, rfl⟩ : ∃ m, K = m + 1 := ⟨K - 1, by omega⟩
            by_cases h6 : kind = 15
            · rw [if_pos h6, if_pos (show kind = 15 ∨ kind = 16 from .inl h6), keys_plain.j0, beq_iff_eq.2 h6, if_pos rfl, fset_eq K r c l cu lo ins kind hn (by omega), Option.bind_some]
            · rw [if_neg h6, keys_plain.j0]
              by_cases h7 : kind = 16
              · rw [if_pos (show kind = 15 ∨ kind = 16 from .inr h7), beq_iff_eq.2 h7, if_pos rfl, fset_eq K r c l cu lo ins kind hn (by omega), Option.bind_some]
              · rw [if_neg (show ¬ (kind = 15 ∨ kind = 16) by omega), beq_eq_false_iff_ne.2 h7, if_neg ff_]
def aidI (a : Int) : Bool := decide (107 ≤ a ∧ a ≤ 110) || (a == 125 || (decide (241 ≤ a ∧ a ≤ 249) || decide (122 ≤ a ∧ a ≤ 124)))
theorem faid_eq (K : Nat) (a : Int) (hk : 0 < K) : attr_Aid.f K a = some (aidI a) := by
  obtain ⟨K, rfl⟩ : ∃ m, K = m + 1 := ⟨K - 1, by omega⟩
  have hb : attr_Bare.f (K + 1) a = some (decide (107 ≤ a ∧ a ≤ 110)) := by
    unfold attr_Bare.f
    by_cases h1 : a = 108
    · subst h1; rfl
    · rw [if_neg h1]
      by_cases h2 : a = 110
      · subst h2; rfl
      · rw [if_neg h2, attr_Bare.j0]
        by_cases h3 : a = 107
        · subst h3; rfl
        · rw [beq_eq_false_iff_ne.2 h3, if_neg (by decide)]
          by_cases h4 : a = 109
          · subst h4; rfl
          · rw [if_neg h4, decide_eq_false (by omega)]
  unfold attr_Aid.f aidI
  rw [hb, Option.bind_some]
  by_cases h : 107 ≤ a ∧ a ≤ 110
  · rw [decide_eq_true h, if_pos rfl]; rfl
  · rw [decide_eq_false h, if_neg (by decide), Bool.false_or]
    by_cases h1 : a = 125
    · subst h1; rfl
    · rw [if_neg h1, beq_eq_false_iff_ne.2 h1, Bool.false_or]
      by_cases h2 : a ≥ 241
      · rw [if_pos h2]
        by_cases h3 : a ≤ 249
        · rw [if_pos h3, decide_eq_true ⟨h2, h3⟩]; rfl
        · rw [if_neg h3, if_pos (by omega), decide_eq_false (show ¬ a ≤ 124 by omega), decide_eq_false (show ¬ (241 ≤ a ∧ a ≤ 249) by omega), decide_eq_false (show ¬ (122 ≤ a ∧ a ≤ 124) by omega)]; rfl
      · rw [if_neg h2, decide_eq_false (show ¬ (241 ≤ a ∧ a ≤ 249) by omega), Bool.false_or]
        by_cases h3 : a ≥ 122
        · rw [if_pos h3]; congr 1
          by_cases h4 : a ≤ 124
          · rw [decide_eq_true h4, decide_eq_true ⟨h3, h4⟩]
          · rw [decide_eq_false h4, decide_eq_false (fun h' => h4 h'.2)]
        · rw [if_neg h3, decide_eq_false (fun h' => h3 h'.1)]
abbrev ScrA := Int × Int × List S55 × Int × Bool × Bool × Bool × Option Er × List S206
def asksF (r c : Int) (l : List S55) (cu : Int) (lo ins : Bool) (ch : Int) : ScrA :=
  if aidI ch = false then (r, c, l, cu, lo, ins, false, some (Er.num 3), []) else if lo = true then (r, c, l, cu, lo, ins, false, some (Er.num 7), [])
  else if ch = 109 then (r, c, List.replicate l.length z55, 0, true, false, true, none, []) else (r, c, l, cu, true, false, true, none, [])
theorem fasks_eq (K : Nat) (r c : Int) (l : List S55) (cu : Int) (lo ins : Bool) (ch : Int) (hn : l.length ≤ 16383) (hp : 0 < l.length) (hk : 0 < K) : keys_asks.f K r c l cu lo ins ch = some (asksF r c l cu lo ins ch) := by
  unfold keys_asks.f asksF
  rw [faid_eq K ch hk, Option.bind_some]
  cases hA : aidI ch with
  | false => rfl
  | true =>
    simp only [if_true, if_neg tf_]
    cases lo with
    | true => rfl
    | false =>
      simp only [if_neg ff_, if_pos hn]
      by_cases h : ch = 109
      · simp only [if_pos h, if_pos hp]
      · simp only [if_neg h]
def keyF (r c : Int) (l : List S55) (cu : Int) (lo ins : Bool) (kind ch : Int) : ScrA :=
  if kind = 17 then asksF r c l cu lo ins ch else ((plainF r c l cu lo ins kind ch).1, (plainF r c l cu lo ins kind ch).2.1, (plainF r c l cu lo ins kind ch).2.2.1, (plainF r c l cu lo ins kind ch).2.2.2.1, (plainF r c l cu lo ins kind ch).2.2.2.2.1, (plainF r c l cu lo ins kind ch).2.2.2.2.2.1, false, (plainF r c l cu lo ins kind ch).2.2.2.2.2.2.1, (plainF r c l cu lo ins kind ch).2.2.2.2.2.2.2)
theorem fkey_eq (K : Nat) (r c : Int) (l : List S55) (cu : Int) (lo ins : Bool) (kind ch : Int) (h : RightI r c l cu) (a0 : 0 ≤ ch) (a1 : ch ≤ 255) (hk : l.length + 5 < K) : keys_Do.f K r c l cu lo ins kind ch = some (keyF r c l cu lo ins kind ch) := by
  have hn : l.length ≤ 16383 := by have := h.len; have := h.rc; omega
  have hp : 0 < l.length := by have := h.cu0; have := h.cu1; omega
  unfold keys_Do.f keyF
  by_cases h1 : kind = 17
  · rw [if_pos h1, if_pos h1, fasks_eq K r c l cu lo ins ch hn hp (by omega), Option.bind_some]
  · rw [if_neg h1, if_neg h1, fplain_eq K r c l cu lo ins kind ch h a0 a1 hk, Option.bind_some]
end Go.Proofs.YtjpedimndkibnaaGreatDoor.P
namespace Go.Proofs.YtjpedimndkibnaaGreatDoor.P
open Go.RowKit Go.Proofs.YtjpedimndkibnaaGreatDoorW.PrintWords Go.Proofs.YtjpedimndkibnaaGreatDoorW.PrintLast
set_option linter.unusedVariables false
set_option linter.unusedSimpArgs false
def unmC (c : S55) : S55 := ⟨c.f0, ⟨c.f1.f0, c.f1.f1, c.f1.f2, false⟩, c.f2⟩
def resP (all : Bool) (l : List S55) (y : Int) : Bool := isF l y && (all || !(rd_T55 l y).f1.f0)
theorem rreset_loop (all : Bool) (r c : Int) (l : List S55) (cu : Int) (lo ins : Bool) (hn : l.length ≤ 16383) (r' c' cu' : Int) (lo' ins' : Bool) : ∀ (d K : Nat) (x : Int) (a : List S55), 0 ≤ x → x + d = l.length → a.length = l.length → d < K →
    shutterref13_Reset.l0 K all x r c l cu lo ins r' c' a cu' lo' ins' = some (r', c', sweep (resP all l) unmC d x a, cu', lo', ins')
  | 0, K, x, a, x0, hx, ha, hk => by
    obtain ⟨K, rfl⟩ : ∃ m, K = m + 1 := ⟨K - 1, by omega⟩
    rw [shutterref13_Reset.l0, if_neg (by omega)]; rfl
  | d + 1, K, x, a, x0, hx, ha, hk => by
    obtain ⟨K, rfl⟩ : ∃ m, K = m + 1 := ⟨K - 1, by omega⟩
    have i1 := rreset_loop all r c l cu lo ins hn r' c' cu' lo' ins' d K (x + 1) (a.set (x : Int).toNat (unmC (rd_T55 a x))) (by omega) (by omega) (by rw [List.length_set]; exact ha) (by omega)
    have i2 := rreset_loop all r c l cu lo ins hn r' c' cu' lo' ins' d K (x + 1) a (by omega) (by omega) ha (by omega)
    rw [shutterref13_Reset.l0, w64 (by omega)]
    refine pos_ (by omega) (pos_ x0 (pos_ (by omega) ?_))
    unfold sweep
    cases hf : isF l x with
    | false =>
      rw [if_neg (show ¬ resP all l x = true by unfold resP; rw [hf]; simp)]
      exact neg_ (by rw [isF_rd, hf]; decide) i2
    | true =>
      refine pos_ ((isF_rd l x).trans hf) ?_
      cases all with
      | true =>
        rw [if_pos (show resP true l x = true by unfold resP; rw [hf]; rfl)]
        exact pos_ rfl i1
      | false =>
        refine neg_ (by decide) ?_
        cases hp : (rd_T55 l x).f1.f0 with
        | true =>
          rw [if_neg (show ¬ resP false l x = true by unfold resP; rw [hf, hp]; simp)]
          exact pos_ rfl i2
        | false =>
          rw [if_pos (show resP false l x = true by unfold resP; rw [hf, hp]; rfl)]
          exact neg_ (by decide) i1
theorem resP_map (all : Bool) (l : List S55) (ok : ∀ x ∈ l, okC x = true) : sweep (resP all l) unmC l.length 0 l = l.map (resetC all) := by
  refine cells_ext (by rw [sweep_length, List.length_map]) fun y y0 y1 => ?_
  rw [sweep_length] at y1
  rw [sweep_rd _ _ l.length 0 l (by omega) (by omega) y y0, rd_map all l y y0 y1]
  cases hf : isF l y with
  | false =>
    rw [if_neg (fun h => by have := h.2.2; unfold resP at this; rw [hf] at this; cases this)]
    have hp := plain_cell ok y y0 y1 hf
    rw [hp]; unfold resetC newC; split <;> rfl
  | true =>
    unfold resetC
    by_cases h : (all || !(rd_T55 l y).f1.f0) = true
    · rw [if_pos h, if_pos ⟨by omega, by omega, by unfold resP; rw [hf, h]; rfl⟩]; rfl
    · rw [if_neg h, if_neg (fun h' => by have := h'.2.2; unfold resP at this; rw [hf, Bool.true_and] at this; exact h this)]
theorem rreset_eq (K : Nat) (r c : Int) (l : List S55) (cu : Int) (lo ins all : Bool) (hn : l.length ≤ 16383) (ok : ∀ x ∈ l, okC x = true) (hk : l.length < K) : shutterref13_Reset.f K r c l cu lo ins all = some (r, c, l.map (resetC all), cu, lo, ins) := by
  unfold shutterref13_Reset.f
  rw [rCopy_eq r c l cu lo ins hn, Option.bind_some, rreset_loop all r c l cu lo ins hn r c cu lo ins l.length K 0 l (by omega) (by omega) rfl hk, resP_map all l ok]
end Go.Proofs.YtjpedimndkibnaaGreatDoor.P
namespace Go.Proofs.YtjpedimndkibnaaGreatDoor.P
open Go.RowKit Go.Proofs.YtjpedimndkibnaaGreatDoorW.PrintWords Go.Proofs.YtjpedimndkibnaaGreatDoorW.PrintLast
set_option linter.unusedVariables false
set_option linter.unusedSimpArgs false
theorem rclean_loop (r c : Int) (l : List S55) (cu : Int) (lo ins : Bool) (hn : l.length ≤ 16383) (hp : 0 < l.length) (r' c' cu' : Int) (lo' ins' : Bool) : ∀ (d K : Nat) (x : Int) (a : List S55), 0 ≤ x → x + d = l.length → a.length = l.length → d + l.length + 3 < K →
    shutterref13_Do.l0 K x r c l cu lo ins r' c' a cu' lo' ins' = some (r', c', sweep (openI l) (fun c => charC c 0) d x a, homeI l, false, false)
  | 0, K, x, a, x0, hx, ha, hk => by
    obtain ⟨K, rfl⟩ : ∃ m, K = m + 1 := ⟨K - 1, by omega⟩
    rw [shutterref13_Do.l0, if_neg (by omega), w64 (by omega), rNext_eq K r c l cu lo ins _ hn (by omega) (by omega) (by omega), Option.bind_some]
    unfold sweep homeI mx
    by_cases h : nextI l ((l.length : Int) - 1) < 0
    · rw [if_pos h]; simp only [Option.some.injEq, Prod.mk.injEq, true_and, and_true]; split <;> omega
    · rw [if_neg h]; simp only [Option.some.injEq, Prod.mk.injEq, true_and, and_true]; split <;> omega
  | d + 1, K, x, a, x0, hx, ha, hk => by
    obtain ⟨K, rfl⟩ : ∃ m, K = m + 1 := ⟨K - 1, by omega⟩
    rw [shutterref13_Do.l0, if_pos (by omega), rOpen_eq K r c l cu lo ins x hn x0 (by omega) (by omega), Option.bind_some, w64 (by omega)]
    unfold sweep
    by_cases h : openI l x = true
    · rw [if_pos h, if_pos x0, if_pos (by omega), if_pos h]
      exact rclean_loop r c l cu lo ins hn hp r' c' cu' lo' ins' d K (x + 1) _ (by omega) (by omega) (by rw [List.length_set]; exact ha) (by omega)
    · rw [if_neg h, if_neg h]
      exact rclean_loop r c l cu lo ins hn hp r' c' cu' lo' ins' d K (x + 1) a (by omega) (by omega) ha (by omega)
theorem rclean_eq (K : Nat) (r c : Int) (l : List S55) (cu : Int) (lo ins : Bool) (hn : l.length ≤ 16383) (hp : 0 < l.length) (ok : ∀ x ∈ l, okC x = true) (hk : l.length + l.length + 5 < K) : shutterref13_Do.f K r c l cu lo ins 111 false false false [] = some (r, c, allI l, homeI l, false, false) := by
  obtain ⟨K, rfl⟩ : ∃ m, K = m + 1 := ⟨K - 1, by omega⟩
  unfold shutterref13_Do.f
  rw [rCopy_eq r c l cu lo ins hn, Option.bind_some, if_neg (by decide), shutterref13_Do.j0, if_neg (by decide), if_pos rfl, rreset_eq K r c l cu lo ins false hn ok (by omega), Option.bind_some]
  exact rclean_loop r c l cu lo ins hn hp r c cu lo ins l.length K 0 _ (by omega) (by omega) (by rw [List.length_map]) (by omega)
theorem rwl_loop (row : List Int) (hrow : row.length ≤ 16383) (r c : Int) (l : List S55) (cu : Int) (lo ins : Bool) (hr : ∀ x ∈ row, 0 ≤ x ∧ x < l.length) (kind : Int) (r' c' cu' : Int) (lo' ins' : Bool) : ∀ (d K x : Nat) (a : List S55), x + d = row.length → a.length = l.length → d < K →
    shutterref16_Do.l0 K kind row (x : Int) r c l cu lo ins r' c' a cu' lo' ins' = some (r', c', wipeL (wipeV kind l row) row d (x : Int) a, cu', lo', ins', 0, -1)
  | 0, K, x, a, hx, ha, hk => by
    obtain ⟨K, rfl⟩ : ∃ m, K = m + 1 := ⟨K - 1, by omega⟩
    rw [shutterref16_Do.l0, if_neg (by omega)]; rfl
  | d + 1, K, x, a, hx, ha, hk => by
    obtain ⟨K, rfl⟩ : ∃ m, K = m + 1 := ⟨K - 1, by omega⟩
    have hm := hr _ (rd_mem row x (by omega))
    have ex : wrap64 ((x : Int) + 1) = ((x + 1 : Nat) : Int) := by rw [w64 (by omega)]; omega
    have ex2 : ((x : Int) + 1) = ((x + 1 : Nat) : Int) := by omega
    have x0 : (0 : Int) ≤ (x : Int) := by omega
    have m1 : rd row (x : Int) < (a.length : Int) := by omega
    rw [shutterref16_Do.l0, ex]
    refine pos_ (by omega) ?_
    unfold wipeL
    rw [ex2]
    by_cases h12 : kind = 12
    · rw [if_pos h12]
      by_cases hlt : ((x + 1 : Nat) : Int) < (row.length : Int)
      · have hm1 := hr _ (rd_mem row (x + 1) (by omega))
        refine pos_ hlt (pos_ x0 (pos_ (by omega) (pos_ hm1.1 (pos_ hm1.2 (pos_ hm.1 (pos_ m1 ?_))))))
        rw [show wipeV kind l row (x : Int) = (rd_T55 l (rd row ((x + 1 : Nat) : Int))).f2 by unfold wipeV; rw [if_pos ⟨h12, by omega⟩, ex2]]
        exact rwl_loop row hrow r c l cu lo ins hr kind r' c' cu' lo' ins' d K (x + 1) _ (by omega) (by rw [List.length_set]; exact ha) (by omega)
      · refine neg_ hlt (pos_ x0 (pos_ hm.1 (pos_ m1 ?_)))
        rw [show wipeV kind l row (x : Int) = 0 by unfold wipeV; rw [if_neg (by omega)]]
        exact rwl_loop row hrow r c l cu lo ins hr kind r' c' cu' lo' ins' d K (x + 1) _ (by omega) (by rw [List.length_set]; exact ha) (by omega)
    · refine neg_ h12 (pos_ x0 (pos_ hm.1 (pos_ m1 ?_)))
      rw [show wipeV kind l row (x : Int) = 0 by unfold wipeV; rw [if_neg (fun h => h12 h.1)]]
      exact rwl_loop row hrow r c l cu lo ins hr kind r' c' cu' lo' ins' d K (x + 1) _ (by omega) (by rw [List.length_set]; exact ha) (by omega)
/-- the document's answer to a key that wipes -/
def wipeR (r c : Int) (l : List S55) (cu : Int) (lo ins : Bool) (kind : Int) : Int × Int × List S55 × Int × Bool × Bool × Int × Int :=
  if wipeW l cu lo kind = 0 then (r, c, wipeI l cu kind, if kind = 14 then homeI l else cu, lo, ins, 0, -1) else if wipeW l cu lo kind = 8 then (r, c, l, cu, true, ins, 8, cu) else (r, c, l, cu, lo, ins, wipeW l cu lo kind, -1)
theorem rwipe_eq (K : Nat) (r c : Int) (l : List S55) (cu : Int) (lo ins : Bool) (kind : Int) (h : RightI r c l cu) (hn : l.length ≤ 16383) (hk : l.length + l.length + 6 < K) : shutterref16_Do.f K r c l cu lo ins kind = some (wipeR r c l cu lo ins kind) := by
  obtain ⟨K, rfl⟩ : ∃ m, K = m + 1 := ⟨K - 1, by omega⟩
  have c0 := h.cu0
  have c1 := h.cu1
  have hp : 0 < l.length := by omega
  unfold shutterref16_Do.f wipeR wipeW
  by_cases h1 : kind < 12 ∨ kind > 14
  · simp only [if_pos h1]
    by_cases h2 : kind < 12
    · refine pos_ h2 ?_
      rw [shutterref16_Do.j0]; rfl
    · refine neg_ h2 ?_
      rw [decide_eq_true (by omega), shutterref16_Do.j0]; rfl
  · simp only [if_neg h1]
    refine neg_ (by omega) ?_
    rw [decide_eq_false (by omega), shutterref16_Do.j0]
    refine neg_ (by decide) ?_
    cases lo with
    | true => simp only [if_true]; rfl
    | false =>
      refine neg_ (by decide) ?_
      simp only [Bool.false_eq_true, if_false]
      by_cases h14 : kind = 14
      · simp only [if_pos h14]
        rw [rclean_eq K r c l cu false ins hn hp h.ok (by omega), Option.bind_some]
        unfold wipeI; rw [if_pos h14]; rfl
      · simp only [if_neg h14]
        rw [rOpen_eq K r c l cu false ins cu hn c0 c1 (by omega), Option.bind_some]
        by_cases ho : openI l cu = true
        · simp only [if_pos ho]
          rw [rModify_eq K r c l cu false ins cu hn c0 c1 (by omega), Option.bind_some]
          rw [show shutterref10_Copy.f (r, c, modI l cu, cu, false, ins).1 (r, c, modI l cu, cu, false, ins).2.1 (r, c, modI l cu, cu, false, ins).2.2.1 (r, c, modI l cu, cu, false, ins).2.2.2.1 (r, c, modI l cu, cu, false, ins).2.2.2.2.1 (r, c, modI l cu, cu, false, ins).2.2.2.2.2 = some (r, c, modI l cu, cu, false, ins) from rCopy_eq r c (modI l cu) cu false ins (by rw [modI_length]; exact hn), Option.bind_some]
          rw [rLine_eq K r c l cu false ins cu hn c0 c1 (by omega), Option.bind_some]
          obtain ⟨_, hr, _, _⟩ := row_open c0 c1 ho
          have hl := row_len l cu
          have := rwl_loop (rowI l cu) (by omega) r c l cu false ins (fun x hx => ⟨(hr x hx).1, (hr x hx).2.1⟩) kind r c cu false ins (rowI l cu).length K 0 (modI l cu) (by omega) (modI_length l cu) (by omega)
          rw [show ((0 : Nat) : Int) = 0 from rfl] at this
          unfold wipeI; rw [if_neg h14]
          exact this
        · simp only [if_neg ho]
          rw [rDeny_eq r c l cu false ins hn, Option.bind_some]; rfl
end Go.Proofs.YtjpedimndkibnaaGreatDoor.P
namespace Go.Proofs.YtjpedimndkibnaaGreatDoor.P
open Go.RowKit Go.Proofs.YtjpedimndkibnaaGreatDoorW.PrintWords Go.Proofs.YtjpedimndkibnaaGreatDoorW.PrintLast
set_option linter.unusedVariables false
set_option linter.unusedSimpArgs false
def scanD (p : Int → Bool) (row : List Int) : Nat → Int → Int
  | 0, f => f
  | i + 1, f => scanD p row i (if p (rd row (i : Int)) = true then (i : Int) else f)
theorem scanD_none (p : Int → Bool) (row : List Int) : ∀ m f, (∀ i : Nat, i < m → p (rd row (i : Int)) = false) → scanD p row m f = f
  | 0, f, h => rfl
  | m + 1, f, h => by
    unfold scanD
    rw [h m (by omega), if_neg (by decide)]; exact scanD_none p row m f (fun i hi => h i (by omega))
theorem scanD_at (p : Int → Bool) (row : List Int) (j : Nat) (hj : p (rd row (j : Int)) = true) (hb : ∀ i : Nat, i < j → p (rd row (i : Int)) = false) : ∀ m f, j < m → scanD p row m f = j
  | 0, f, h => by omega
  | m + 1, f, h => by
    unfold scanD
    by_cases e : j = m
    · subst e; rw [hj, if_pos rfl]; exact scanD_none p row j _ hb
    · exact scanD_at p row j hj hb m _ (by omega)
theorem scan_free (l : List S55) (a : Int) : scanD (emptyC l) (rowI l a) (rowI l a).length (-1) = freeI l a := by
  rcases indexW_from (emptyC l) (rowI l a) 0 (Int.le_refl _) with ⟨h1, h2⟩ | ⟨j, h1, h2, h3, h4⟩
  · unfold freeI; rw [h1]; exact scanD_none _ _ _ _ (fun i hi => h2 _ (rd_mem _ i hi))
  · unfold freeI; rw [h2, scanD_at _ _ j h3 h4 _ _ h1]; omega
theorem r14_l1 (row : List Int) (hnd : row.Nodup) (hrow : row.length ≤ 16383) (l : List S55) (hr : ∀ x ∈ row, 0 ≤ x ∧ x < l.length) (r c cu a : Int) (lo ins : Bool) (f : Nat) (hf : f < row.length) : ∀ (d i K : Nat) (L : List S55), i + d = f + 1 → 1 ≤ i → L.length = l.length → d < K →
    ∃ F K', K ≤ K' + d + 1 ∧ shutterref14_Type.l1 K a cu row f i r c l cu lo ins r c L cu lo ins = shutterref14_Type.j3 K' a cu r c l cu lo ins r c F cu lo ins ∧ F.length = l.length ∧
      (∀ t : Nat, i ≤ t → t ≤ f → rd_T55 F (rd row (t : Int)) = ⟨(rd_T55 L (rd row (t : Int))).f0, (rd_T55 L (rd row (t : Int))).f1, (rd_T55 l (rd row ((t - 1 : Nat) : Int))).f2⟩) ∧
      (∀ y : Int, 0 ≤ y → (∀ t : Nat, i ≤ t → t ≤ f → rd row (t : Int) ≠ y) → rd_T55 F y = rd_T55 L y)
  | 0, i, K, L, hd, hi, hL, hk => by
    obtain ⟨K, rfl⟩ : ∃ m, K = m + 1 := ⟨K - 1, by omega⟩
    rw [shutterref14_Type.l1, if_neg (by omega)]
    exact ⟨L, K, by omega, rfl, hL, fun t h1 h2 => by omega, fun y _ _ => rfl⟩
  | d + 1, i, K, L, hd, hi, hL, hk => by
    obtain ⟨K, rfl⟩ : ∃ m, K = m + 1 := ⟨K - 1, by omega⟩
    have h1 := hr _ (rd_mem row i (by omega))
    have h0 := hr _ (rd_mem row (i - 1) (by omega))
    have e : wrap64 ((i : Int) - 1) = ((i - 1 : Nat) : Int) := by rw [w64 (by omega)]; omega
    have e2 : wrap64 ((i : Int) + 1) = ((i + 1 : Nat) : Int) := by rw [w64 (by omega)]; omega
    have heq : shutterref14_Type.l1 (K + 1) a cu row f i r c l cu lo ins r c L cu lo ins = shutterref14_Type.l1 K a cu row f ((i + 1 : Nat) : Int) r c l cu lo ins r c (L.set (rd row (i : Int)).toNat (⟨(rd_T55 L (rd row (i : Int))).f0, ⟨(rd_T55 L (rd row (i : Int))).f1.f0, (rd_T55 L (rd row (i : Int))).f1.f1, (rd_T55 L (rd row (i : Int))).f1.f2, (rd_T55 L (rd row (i : Int))).f1.f3⟩, (rd_T55 l (rd row ((i - 1 : Nat) : Int))).f2⟩ : S55)) cu lo ins := by
      rw [shutterref14_Type.l1, e, e2]
      clear e e2
      exact pos_ (by omega) (pos_ (by omega) (pos_ (by omega) (pos_ (by omega) (pos_ (by omega) (pos_ h0.1 (pos_ h0.2 (pos_ h1.1 (pos_ (by omega) rfl))))))))
    rw [heq]
    clear heq e e2
    generalize hv : (⟨(rd_T55 L (rd row (i : Int))).f0, ⟨(rd_T55 L (rd row (i : Int))).f1.f0, (rd_T55 L (rd row (i : Int))).f1.f1, (rd_T55 L (rd row (i : Int))).f1.f2, (rd_T55 L (rd row (i : Int))).f1.f3⟩, (rd_T55 l (rd row ((i - 1 : Nat) : Int))).f2⟩ : S55) = v
    obtain ⟨F, K', hK, hF, hl, ht, hy⟩ := r14_l1 row hnd hrow l hr r c cu a lo ins f hf d (i + 1) K (L.set (rd row (i : Int)).toNat v) (by omega) (by omega) (by rw [List.length_set]; exact hL) (by omega)
    have hs := fun y (y0 : 0 ≤ y) => rd_set L (rd row (i : Int)) y v h1.1 (by omega) y0
    refine ⟨F, K', by omega, hF, hl, fun t t1 t2 => ?_, fun y y0 hny => ?_⟩
    · by_cases et : t = i
      · subst et
        rw [hy _ h1.1 (fun s s1 s2 he => by have := rd_inj hnd (by omega) (by omega) he; omega), hs _ h1.1, if_pos rfl, ← hv]
      · rw [ht t (by omega) t2, hs _ (hr _ (rd_mem row t (by omega))).1, if_neg (fun he => by have := rd_inj hnd (by omega) (by omega) he; omega)]
    · rw [hy y y0 (fun s s1 s2 => hny s (by omega) s2), hs y y0, if_neg (hny i (Nat.le_refl _) (by omega))]
theorem r14_j3 (K : Nat) (r c : Int) (l L : List S55) (cu a : Int) (lo ins : Bool) (hn : l.length ≤ 16383) (hL : L.length = l.length) (c0 : 0 ≤ cu) (c1 : cu < l.length) (hC : (rd_T55 L cu).f0 = false ∧ (rd_T55 L cu).f1 = ⟨false, false, 0, false⟩) (hk : l.length + 4 < K) :
    shutterref14_Type.j3 K a cu r c l cu lo ins r c L cu lo ins = some (r, c, L.set cu.toNat (newC a), onwardI (L.set cu.toNat (newC a)) cu, lo, ins, 0, -1) := by
  obtain ⟨K, rfl⟩ : ∃ m, K = m + 1 := ⟨K - 1, by omega⟩
  have o0 := onI_nonneg (n := l.length) (by omega) cu 1
  have o1 := onI_lt (n := l.length) (by omega) cu 1
  have hM : (L.set cu.toNat (newC a)).length = l.length := by rw [List.length_set, hL]
  have ev : (⟨(rd_T55 L cu).f0, ⟨(rd_T55 L cu).f1.f0, (rd_T55 L cu).f1.f1, (rd_T55 L cu).f1.f2, (rd_T55 L cu).f1.f3⟩, a⟩ : S55) = newC a := by rw [hC.1, hC.2]; rfl
  rw [shutterref14_Type.j3, if_pos c0, if_pos (by omega), Option.bind_some, rNx_eq r c l cu lo ins cu hn c0 c1, Option.bind_some, if_pos o0, if_pos (by omega), ev]
  generalize hMM : L.set (cu : Int).toNat (newC a) = M at hM ⊢
  have hj4 : ∀ K b, l.length + 2 < K → shutterref14_Type.j4 (K + 1) (onI l.length cu 1) (-1) b r c l cu lo ins r c M cu lo ins = some (r, c, M, if b = true ∧ 0 ≤ nextI M (onI l.length cu 1) then nextI M (onI l.length cu 1) else onI l.length (onI l.length cu 1) 1, lo, ins, 0, -1) := by
    intro K b hK
    rw [shutterref14_Type.j4]
    cases b with
    | false => rw [if_neg (by decide), if_pos (by decide), if_neg (fun h => by cases h.1), rNx_eq r c l cu lo ins _ hn o0 o1, Option.bind_some]
    | true =>
      rw [if_pos rfl, rNext_eq K r c M cu lo ins _ (by omega) o0 (by omega) (by omega), Option.bind_some]
      by_cases hx : nextI M (onI l.length cu 1) < 0
      · rw [if_pos hx, if_neg (fun h => by omega), rNx_eq r c l cu lo ins _ hn o0 o1, Option.bind_some]
      · rw [if_neg hx, if_pos ⟨rfl, by omega⟩]
  obtain ⟨K, rfl⟩ : ∃ m, K = m + 1 := ⟨K - 1, by omega⟩
  unfold onwardI isF protI numI
  rw [hM]
  by_cases hF : (rd_T55 M (onI l.length cu 1)).f0 = true
  · rw [if_pos hF, if_pos hF]
    by_cases hP : (rd_T55 M (onI l.length cu 1)).f1.f0 = true
    · rw [if_pos hP, hj4 K _ (by omega)]
      by_cases hN : (rd_T55 M (onI l.length cu 1)).f1.f1 = true
      · by_cases hx : 0 ≤ nextI M (onI l.length cu 1)
        · rw [if_pos ⟨hN, hx⟩, if_pos ⟨hP, hN, hx⟩]
        · rw [if_neg (fun h => hx h.2), if_neg (fun h => hx h.2.2)]
      · rw [if_neg (fun h => hN h.1), if_neg (fun h => hN h.2.1)]
    · rw [if_neg hP, hj4 K _ (by omega), if_neg (fun h => by cases h.1), if_neg (fun h => hP h.1)]
  · rw [if_neg hF, if_neg hF]
def typeR (r c : Int) (l : List S55) (cu : Int) (lo ins : Bool) (a : Int) : Int × Int × List S55 × Int × Bool × Bool × Int × Int :=
  if whyI l cu lo ins a = 0 then (r, c, outI l cu ins a, onwardI (outI l cu ins a) cu, lo, ins, 0, -1)
  else if whyI l cu lo ins a = 3 ∨ whyI l cu lo ins a = 7 then (r, c, l, cu, lo, ins, whyI l cu lo ins a, -1)
  else (r, c, l, cu, true, ins, whyI l cu lo ins a, cu)
theorem r14_l0 (row : List Int) (hrow : row.length ≤ 16383) (l : List S55) (hn : l.length ≤ 16383) (hr : ∀ x ∈ row, 0 ≤ x ∧ x < l.length) (r c cu a : Int) (lo ins : Bool) (L : List S55) (B : Nat) (res : Int × Int × List S55 × Int × Bool × Bool × Int × Int) (fr : Int)
    (hres : ∀ K, B < K → 0 ≤ fr → shutterref14_Type.l1 K a cu row fr 1 r c l cu lo ins r c L cu lo ins = some res) : ∀ (m K : Nat) (g : Int), m ≤ row.length → m + B + 1 < K → scanD (emptyC l) row m g = fr →
    shutterref14_Type.l0 K a cu row g ((m : Int) - 1) r c l cu lo ins r c L cu lo ins = if fr < 0 then some (r, c, l, cu, true, ins, 10, cu) else some res
  | 0, K, g, hm, hk, hs => by
    obtain ⟨K, rfl⟩ : ∃ z, K = z + 1 := ⟨K - 1, by omega⟩
    rw [shutterref14_Type.l0, if_neg (by omega)]
    have hs' : g = fr := hs
    subst hs'
    by_cases h : g < 0
    · rw [if_pos h, if_pos h, rDeny_eq r c l cu lo ins hn, Option.bind_some]
    · rw [if_neg h, if_neg h]; exact hres K (by omega) (by omega)
  | m + 1, K, g, hm, hk, hs => by
    obtain ⟨K, rfl⟩ : ∃ z, K = z + 1 := ⟨K - 1, by omega⟩
    have h1 := hr _ (rd_mem row m (by omega))
    have e : ((m + 1 : Nat) : Int) - 1 = (m : Int) := by omega
    rw [e, shutterref14_Type.l0, if_pos (by omega), if_pos (by omega), if_pos (by omega), if_pos h1.1, if_pos h1.2, w64 (by omega)]
    unfold scanD at hs
    have ec : emptyC l (rd row (m : Int)) = ((rd_T55 l (rd row (m : Int))).f2 == 0) := rfl
    rw [ec] at hs
    by_cases hz : (rd_T55 l (rd row (m : Int))).f2 = 0
    · rw [if_pos hz]
      rw [if_pos (by simpa using hz)] at hs
      exact r14_l0 row hrow l hn hr r c cu a lo ins L B res fr hres m K _ (by omega) (by omega) hs
    · rw [if_neg hz]
      rw [if_neg (by simpa using hz)] at hs
      exact r14_l0 row hrow l hn hr r c cu a lo ins L B res fr hres m K _ (by omega) (by omega) hs
theorem rType_eq (K : Nat) (r c : Int) (l : List S55) (cu : Int) (lo ins : Bool) (a : Int) (h : RightI r c l cu) (a0 : 0 ≤ a) (a1 : a ≤ 255) (hk : l.length + l.length + l.length + 20 < K) : shutterref14_Type.f K r c l cu lo ins a = some (typeR r c l cu lo ins a) := by
  have hn : l.length ≤ 16383 := by have := h.len; have := h.rc; omega
  have c0 := h.cu0
  have c1 := h.cu1
  have hp : 0 < l.length := by omega
  unfold shutterref14_Type.f
  rw [rLetter_eq a a0 a1, Option.bind_some]
  cases hL : letterI a with
  | false => rw [if_neg (by decide)]; unfold typeR whyI; rw [hL]; rfl
  | true =>
    rw [if_pos rfl]
    cases lo with
    | true => rw [if_pos rfl]; unfold typeR whyI; rw [hL]; rfl
    | false =>
      rw [if_neg (by decide), rOpen_eq K r c l cu false ins cu hn c0 c1 (by omega), Option.bind_some]
      cases ho : openI l cu with
      | false => rw [if_neg (by decide), rDeny_eq r c l cu false ins hn, Option.bind_some]; unfold typeR whyI; rw [hL, ho]; rfl
      | true =>
        rw [if_pos rfl, rOf_eq K r c l cu false ins cu hn c0 c1 (by omega), Option.bind_some, ← digit_same, digit_eq, Option.bind_some]
        simp only
        obtain ⟨hnd, hr, hlen, hhead⟩ := row_open c0 c1 ho
        have hr' : ∀ x ∈ rowI l cu, 0 ≤ x ∧ x < l.length := fun x hx => ⟨(hr x hx).1, (hr x hx).2.1⟩
        have hrl := row_len l cu
        have hpc := plain_cell h.ok cu c0 c1 (open_isF ho)
        have hmc := modI_rd l cu hp cu c0 (open_isF ho)
        have hj0 : ∀ K b, l.length + l.length + l.length + 15 < K → shutterref14_Type.j0 (K + 1) a cu b r c l cu false ins = if b = true then some (r, c, l, cu, true, ins, 9, cu) else if ins = true ∧ freeI l cu < 0 then some (r, c, l, cu, true, ins, 10, cu) else some (r, c, outI l cu ins a, onwardI (outI l cu ins a) cu, false, ins, 0, -1) := by
          intro K b hK
          rw [shutterref14_Type.j0]
          cases b with
          | true => rw [if_pos rfl, if_pos rfl, rDeny_eq r c l cu false ins hn, Option.bind_some]
          | false =>
            rw [if_neg (by decide), if_neg (by decide), rModify_eq K r c l cu false ins cu hn c0 c1 (by omega), Option.bind_some]
            simp only
            cases ins with
            | false =>
              rw [if_neg (by decide), if_neg (fun h => by cases h.1), r14_j3 K r c l (modI l cu) cu a false false hn (modI_length l cu) c0 c1 (by rw [hmc, hpc]; exact ⟨rfl, rfl⟩) (by omega)]
              unfold outI pushI; rw [if_neg (by decide)]
            | true =>
              rw [if_pos rfl, rLine_eq K r c l cu false true cu hn c0 c1 (by omega), Option.bind_some, w64 (by omega)]
              have hsc := scan_free l cu
              by_cases hf : freeI l cu < 0
              · rw [r14_l0 (rowI l cu) (by omega) l hn hr' r c cu a false true (modI l cu) 0 (r, c, l, cu, true, true, 10, cu) (freeI l cu) (fun K _ h0 => by omega) (rowI l cu).length K (-1) (Nat.le_refl _) (by omega) hsc, if_pos hf, if_pos ⟨rfl, hf⟩]
              · rcases free_range l cu with hf1 | ⟨j, hj, hfj, _, _⟩
                · omega
                · have hres : ∀ K, l.length + l.length + 10 < K → 0 ≤ freeI l cu → shutterref14_Type.l1 K a cu (rowI l cu) (freeI l cu) 1 r c l cu false true r c (modI l cu) cu false true = some (r, c, outI l cu true a, onwardI (outI l cu true a) cu, false, true, 0, -1) := by
                    intro K hK _
                    obtain ⟨F, K', hK', hF, hFl, ht, hy⟩ := r14_l1 (rowI l cu) hnd (by omega) l hr' r c cu a false true j hj j 1 K (modI l cu) (by omega) (Nat.le_refl _) (modI_length l cu) (by omega)
                    have hcu : ∀ t : Nat, 1 ≤ t → t ≤ j → rd (rowI l cu) (t : Int) ≠ cu := fun t t1 t2 e => by
                      have e' : rd (rowI l cu) (t : Int) = rd (rowI l cu) ((0 : Nat) : Int) := by rw [e]; exact hhead.symm
                      have := rd_inj hnd (by omega) hlen e'; omega
                    have hFc : rd_T55 F cu = rd_T55 l cu := (hy cu c0 hcu).trans hmc
                    rw [hfj]
                    rw [show ((1 : Nat) : Int) = 1 from rfl] at hF
                    rw [hF, r14_j3 K' r c l F cu a false true hn hFl c0 c1 (by rw [hFc, hpc]; exact ⟨rfl, rfl⟩) (by omega)]
                    have hsh := shiftD_rd (rowI l cu) hnd l.length hr' j (modI l cu) (modI_length l cu) hj
                    have : F = shiftD (rowI l cu) j (modI l cu) := by
                      refine cells_ext (by rw [hFl, shiftD_length, modI_length]) (fun y y0 y1 => ?_)
                      by_cases hin : ∃ t : Nat, 1 ≤ t ∧ t ≤ j ∧ rd (rowI l cu) (t : Int) = y
                      · obtain ⟨t, t1, t2, rfl⟩ := hin
                        have q1 := hr _ (rd_mem (rowI l cu) t (by omega))
                        have q0 := hr _ (rd_mem (rowI l cu) (t - 1) (by omega))
                        rw [ht t t1 t2, hsh.1 t t1 t2, modI_rd l cu hp _ q1.1 q1.2.2.1, modI_rd l cu hp _ q0.1 q0.2.2.1, plain_cell h.ok _ q1.1 q1.2.1 q1.2.2.1]
                        exact (plain_cell h.ok _ q0.1 q0.2.1 q0.2.2.1).symm
                      · rw [hy y y0 (fun t t1 t2 e => hin ⟨t, t1, t2, e⟩), hsh.2 y y0 (fun t t1 t2 e => hin ⟨t, t1, t2, e⟩)]
                    unfold outI pushI
                    rw [if_pos rfl, hfj, Int.toNat_natCast, this]
                  rw [r14_l0 (rowI l cu) (by omega) l hn hr' r c cu a false true (modI l cu) (l.length + l.length + 10) _ (freeI l cu) hres (rowI l cu).length K (-1) (Nat.le_refl _) (by omega) hsc, if_neg hf, if_neg (fun h => hf h.2)]
        obtain ⟨K, rfl⟩ : ∃ m, K = m + 1 := ⟨K - 1, by omega⟩
        have hfin : ∀ b, (b = true ↔ ((ofI l cu).f1 = true ∧ digitI a = false ∧ a ≠ 28 ∧ a ≠ 30)) → shutterref14_Type.j0 (K + 1) a cu b r c l cu false ins = some (typeR r c l cu false ins a) := by
          intro b hb
          rw [hj0 K b (by omega)]
          unfold typeR whyI
          rw [hL, ho]
          cases b with
          | true => have := hb.1 rfl; simp [this]
          | false =>
            have h9 : ¬ ((ofI l cu).f1 = true ∧ digitI a = false ∧ a ≠ 28 ∧ a ≠ 30) := fun hh => by have := hb.2 hh; cases this
            rw [if_neg (by decide : ¬ (false = true)), if_neg h9]
            by_cases h10 : ins = true ∧ freeI l cu < 0
            · simp [h10]
            · simp only [h10]; simp
        by_cases h1 : (ofI l cu).f1 = true
        · rw [if_pos h1]
          cases hd : digitI a with
          | true => rw [if_pos rfl]; exact hfin false (by simp [hd])
          | false =>
            rw [if_neg (by decide)]
            by_cases h28 : a = 28
            · rw [if_pos h28]; exact hfin false (by simp [h28])
            · rw [if_neg h28]
              by_cases h30 : a = 30
              · exact hfin _ (by simp [h30])
              · exact hfin _ (by simp [h1, hd, h28, h30])
        · rw [if_neg h1]; exact hfin false (by simp [h1])
end Go.Proofs.YtjpedimndkibnaaGreatDoor.P
namespace Go.Proofs.YtjpedimndkibnaaGreatDoor.P
open Go.RowKit Go.Proofs.YtjpedimndkibnaaGreatDoorW.PrintWords Go.Proofs.YtjpedimndkibnaaGreatDoorW.PrintLast
set_option linter.unusedVariables false
set_option linter.unusedSimpArgs false
theorem rline_loop (r c : Int) (l : List S55) (cu : Int) (lo ins : Bool) (s : Int) (hn : l.length ≤ 16383) (s0 : 0 ≤ s) (s1 : s < l.length) : ∀ (d K i : Nat), d + i = l.length → d + l.length + 3 < K →
    shutterref15_To.l0 K l.length s i r c l cu lo ins = some (if findW (openI l) (fun j => onI l.length s j) d i < 0 then 0 else findW (openI l) (fun j => onI l.length s j) d i)
  | 0, K, i, hd, hK => by
    obtain ⟨K, rfl⟩ : ∃ z, K = z + 1 := ⟨K - 1, by omega⟩
    rw [shutterref15_To.l0, if_neg (by omega)]; rfl
  | d + 1, K, i, hd, hK => by
    obtain ⟨K, rfl⟩ : ∃ z, K = z + 1 := ⟨K - 1, by omega⟩
    have ih := rline_loop r c l cu lo ins s hn s0 s1 d K (i + 1) (by omega) (by omega)
    have n0 := onI_nonneg (n := l.length) (by omega) s (i : Int)
    have n1 := onI_lt (n := l.length) (by omega) s (i : Int)
    have e : Int.tmod (wrap64 (s + i)) (l.length : Int) = onI l.length s i := by rw [w64 (by omega), Int.tmod_eq_emod_of_nonneg (by omega)]; rfl
    rw [shutterref15_To.l0, if_pos (by omega), if_neg (by omega), e, rOpen_eq K r c l cu lo ins _ hn n0 n1 (by omega), Option.bind_some, findW]
    by_cases h : openI l (onI l.length s (i : Int)) = true
    · rw [if_pos h, if_pos h, if_neg (by omega)]
    · rw [if_neg h, if_neg h, w64 (by omega), show (i : Int) + 1 = ((i + 1 : Nat) : Int) by omega]; exact ih
theorem rzero_eq (x : Int) : shutterref15_zero.f x = some (zeroI x) := by unfold shutterref15_zero.f zeroI; split <;> rfl
theorem rTo_eq (k : Nat) (r c : Int) (l : List S55) (cu : Int) (lo ins : Bool) (kind : Int) (h : RightI r c l cu) (hk : l.length + l.length + 3 < k) : shutterref15_To.f k r c l cu lo ins kind = some (toI c l cu kind) := by
  have hn : l.length ≤ 16383 := by have := h.len; have := h.rc; omega
  have c0 := h.cu0
  have c1 := h.cu1
  have g1 := h.c1
  have g2 := h.c2
  have g3 : c ≤ l.length := by
    rw [h.len]
    have := Int.mul_le_mul_of_nonneg_right h.r1 (show (0 : Int) ≤ c by omega)
    omega
  have tm : ∀ x y : Int, 0 ≤ x → x ≤ 100000 → (x = y + l.length ∨ x = y) → Int.tmod (wrap64 x) (l.length : Int) = y % (l.length : Int) := by
    intro x y x0 x1 hh
    rw [w64 (by omega), Int.tmod_eq_emod_of_nonneg x0]
    rcases hh with hh | hh
    · rw [hh]; exact Int.add_emod_right ..
    · rw [hh]
  unfold shutterref15_To.f toI
  by_cases h2 : kind = 2
  · rw [if_pos h2, if_pos h2, if_neg (by omega), w64 (x := cu + _) (by omega), tm _ (cu + -1) (by omega) (by omega) (by omega)]; rfl
  rw [if_neg h2, if_neg h2]
  by_cases h3 : kind = 3
  · rw [if_pos h3, if_pos h3, if_neg (by omega), tm _ (cu + 1) (by omega) (by omega) (by omega)]; rfl
  rw [if_neg h3, if_neg h3]
  by_cases h4 : kind = 4
  · rw [if_pos h4, if_pos h4, if_neg (by omega), w64 (x := cu + _) (by omega), tm _ (cu + -c) (by omega) (by omega) (by omega)]; rfl
  rw [if_neg h4, if_neg h4]
  by_cases h5 : kind = 5
  · rw [if_pos h5, if_pos h5, if_neg (by omega), tm _ (cu + c) (by omega) (by omega) (by omega)]; rfl
  rw [if_neg h5, if_neg h5]
  by_cases h6 : kind = 6
  · rw [if_pos h6, if_pos h6, rNext_eq k r c l cu lo ins _ hn c0 c1 (by omega), Option.bind_some, rzero_eq]; rfl
  rw [if_neg h6, if_neg h6]
  by_cases h7 : kind = 7
  · rw [if_pos h7, if_pos h7, rPrev_eq k r c l cu lo ins _ hn c0 c1 (by omega), Option.bind_some, rzero_eq]; rfl
  rw [if_neg h7, if_neg h7]
  by_cases h8 : kind = 8
  · rw [if_pos h8, if_pos h8, w64 (by omega), rNext_eq k r c l cu lo ins _ hn (by omega) (by omega) (by omega), Option.bind_some, rzero_eq]; rfl
  rw [if_neg h8, if_neg h8, if_neg (by omega), if_neg (by have := h.r1; omega)]
  obtain ⟨p1, p2, p3, p4, p5, p6⟩ := col_parts h
  have n0 := onI_nonneg (n := l.length) (by omega) (cu - cu % c) c
  have n1 := onI_lt (n := l.length) (by omega) (cu - cu % c) c
  have r1 := h.r1
  have r2 := h.r2
  have ls := line_start h
  rw [Int.tdiv_eq_ediv_of_nonneg c0, w64 (x := cu / c) (by omega), w64 (x := cu / c + 1) (by omega), Int.tmod_eq_emod_of_nonneg (by omega), ← ls, w64 (by omega)]
  have := rline_loop r c l cu lo ins (onI l.length (cu - cu % c) c) hn n0 n1 l.length k 0 (by omega) (by omega)
  rw [show ((0 : Nat) : Int) = 0 from rfl] at this
  rw [this]; rfl
theorem rmove_eq (k : Nat) (r c : Int) (l : List S55) (cu : Int) (lo ins : Bool) (kind : Int) (h : RightI r c l cu) (hk : l.length + l.length + 4 < k) : shutterref15_Do.f k r c l cu lo ins kind = some (r, c, l, if moveW lo kind = 0 then toI c l cu kind else cu, lo, ins, moveW lo kind) := by
  have hn : l.length ≤ 16383 := by have := h.len; have := h.rc; omega
  obtain ⟨k, rfl⟩ : ∃ z, k = z + 1 := ⟨k - 1, by omega⟩
  have hj : ∀ b, shutterref15_Do.j0 (k + 1) kind b r c l cu lo ins = if b = true then some (r, c, l, cu, lo, ins, 1) else if lo = true then some (r, c, l, cu, lo, ins, 7) else some (r, c, l, toI c l cu kind, lo, ins, 0) := by
    intro b
    rw [shutterref15_Do.j0, rCopy_eq r c l cu lo ins hn, Option.bind_some, rTo_eq k r c l cu lo ins kind h (by omega), Option.bind_some]
  unfold shutterref15_Do.f
  rw [hj, hj]
  by_cases h2 : kind < 2
  · have he : moveW lo kind = 1 := by unfold moveW; rw [if_pos (.inl h2)]
    rw [if_pos h2, if_pos rfl, he]; rfl
  · rw [if_neg h2]
    by_cases h3 : kind > 9
    · have he : moveW lo kind = 1 := by unfold moveW; rw [if_pos (.inr h3)]
      rw [decide_eq_true h3, if_pos rfl, he]; rfl
    · have he : moveW lo kind = if lo = true then 7 else 0 := by unfold moveW; rw [if_neg (by omega)]
      rw [decide_eq_false h3, if_neg ff_]
      cases lo with
      | true => rw [if_pos rfl, he]; rfl
      | false => rw [if_neg ff_, he]; rfl
end Go.Proofs.YtjpedimndkibnaaGreatDoor.P
namespace Go.Proofs.YtjpedimndkibnaaGreatDoor.P
open Go.RowKit Go.Proofs.YtjpedimndkibnaaGreatDoorW.PrintWords Go.Proofs.YtjpedimndkibnaaGreatDoorW.PrintLast
set_option linter.unusedVariables false
set_option linter.unusedSimpArgs false
/-- An error's number. -/
def codeI (e : Option Er) (s : List S206) : Int := match e with | none => 0 | some (.num n) => n | some .spot => match s with | [x] => x.f1 | _ => 0
/-- An error's place. -/
def whereI (e : Option Er) (s : List S206) : Int := match e with | some .spot => (match s with | [x] => x.f0 | _ => -1) | _ => -1
/-- A key's answer as the document gives it. -/
def ansK (t : ScrA) : Int × Int × List S55 × Int × Bool × Bool × Bool × Int × Int :=
  (t.1, t.2.1, t.2.2.1, t.2.2.2.1, t.2.2.2.2.1, t.2.2.2.2.2.1, t.2.2.2.2.2.2.1, codeI t.2.2.2.2.2.2.2.1 t.2.2.2.2.2.2.2.2, whereI t.2.2.2.2.2.2.2.1 t.2.2.2.2.2.2.2.2)
theorem typeR_ans (r c : Int) (l : List S55) (cu : Int) (lo ins : Bool) (a : Int) : ansK ((typeF r c l cu lo ins a).1, (typeF r c l cu lo ins a).2.1, (typeF r c l cu lo ins a).2.2.1, (typeF r c l cu lo ins a).2.2.2.1, (typeF r c l cu lo ins a).2.2.2.2.1, (typeF r c l cu lo ins a).2.2.2.2.2.1, false, (typeF r c l cu lo ins a).2.2.2.2.2.2.1, (typeF r c l cu lo ins a).2.2.2.2.2.2.2)
    = ((typeR r c l cu lo ins a).1, (typeR r c l cu lo ins a).2.1, (typeR r c l cu lo ins a).2.2.1, (typeR r c l cu lo ins a).2.2.2.1, (typeR r c l cu lo ins a).2.2.2.2.1, (typeR r c l cu lo ins a).2.2.2.2.2.1, false, (typeR r c l cu lo ins a).2.2.2.2.2.2.1, (typeR r c l cu lo ins a).2.2.2.2.2.2.2) := by
  unfold typeF typeR
  by_cases h0 : whyI l cu lo ins a = 0
  · simp only [if_pos h0]; rfl
  · simp only [if_neg h0]
    by_cases h3 : whyI l cu lo ins a = 3 ∨ whyI l cu lo ins a = 7
    · simp only [if_pos h3]; rfl
    · simp only [if_neg h3]; rfl
theorem wipeR_ans (r c : Int) (l : List S55) (cu : Int) (lo ins : Bool) (a : Int) : ansK ((wipeF r c l cu lo ins a).1, (wipeF r c l cu lo ins a).2.1, (wipeF r c l cu lo ins a).2.2.1, (wipeF r c l cu lo ins a).2.2.2.1, (wipeF r c l cu lo ins a).2.2.2.2.1, (wipeF r c l cu lo ins a).2.2.2.2.2.1, false, (wipeF r c l cu lo ins a).2.2.2.2.2.2.1, (wipeF r c l cu lo ins a).2.2.2.2.2.2.2)
    = ((wipeR r c l cu lo ins a).1, (wipeR r c l cu lo ins a).2.1, (wipeR r c l cu lo ins a).2.2.1, (wipeR r c l cu lo ins a).2.2.2.1, (wipeR r c l cu lo ins a).2.2.2.2.1, (wipeR r c l cu lo ins a).2.2.2.2.2.1, false, (wipeR r c l cu lo ins a).2.2.2.2.2.2.1, (wipeR r c l cu lo ins a).2.2.2.2.2.2.2) := by
  unfold wipeF wipeR
  by_cases h0 : wipeW l cu lo a = 0
  · simp only [if_pos h0]; rfl
  · simp only [if_neg h0]
    by_cases h8 : wipeW l cu lo a = 8
    · simp only [if_pos h8]; rfl
    · simp only [if_neg h8]; rfl
theorem mx_zero (x : Int) : mx 0 x = if x < 0 then 0 else x := by
  unfold mx
  by_cases h : x < 0
  · rw [if_pos h, if_neg (by omega)]
  · rw [if_neg h]
    by_cases h2 : 0 < x
    · rw [if_pos h2]
    · rw [if_neg h2]; omega
theorem rkey_type (K : Nat) (r c : Int) (l : List S55) (cu : Int) (lo ins : Bool) (kind ch a : Int) (h : RightI r c l cu) (a0 : 0 ≤ a) (a1 : a ≤ 255) (hk : l.length + l.length + l.length + 25 < K) :
    shutterref17_Do.j2 K a r c l cu lo ins kind ch = some (if kind = 10 ∧ whyI l cu lo ins a = 0 then (r, c, outI l cu ins a, mx 0 (nextI (outI l cu ins a) cu), lo, ins, false, 0, -1)
      else ((typeR r c l cu lo ins a).1, (typeR r c l cu lo ins a).2.1, (typeR r c l cu lo ins a).2.2.1, (typeR r c l cu lo ins a).2.2.2.1, (typeR r c l cu lo ins a).2.2.2.2.1, (typeR r c l cu lo ins a).2.2.2.2.2.1, false, (typeR r c l cu lo ins a).2.2.2.2.2.2.1, (typeR r c l cu lo ins a).2.2.2.2.2.2.2)) := by
  have hn : l.length ≤ 16383 := by have := h.len; have := h.rc; omega
  have ho := outI_length l cu ins a
  obtain ⟨K, rfl⟩ : ∃ m, K = m + 2 := ⟨K - 2, by omega⟩
  rw [shutterref17_Do.j2, rType_eq (K + 1) r c l cu lo ins a h a0 a1 (by omega), Option.bind_some]
  by_cases h10 : kind = 10
  · rw [if_pos h10, shutterref17_Do.j3]
    by_cases h0 : whyI l cu lo ins a = 0
    · rw [if_pos (show kind = 10 ∧ whyI l cu lo ins a = 0 from ⟨h10, h0⟩)]
      unfold typeR
      simp only [if_pos h0]
      rw [if_pos (by rfl), rNext_eq K r c (outI l cu ins a) _ lo ins cu (by omega) h.cu0 (by rw [ho]; exact h.cu1) (by omega), Option.bind_some]
      rw [mx_zero]
      by_cases hx : nextI (outI l cu ins a) cu < 0
      · rw [if_pos hx, if_pos hx]
      · rw [if_neg hx, if_neg hx]
    · rw [if_neg (show ¬ (kind = 10 ∧ whyI l cu lo ins a = 0) from fun hh => h0 hh.2)]
      have hw : ((typeR r c l cu lo ins a).2.2.2.2.2.2.1 == 0) = false := by
        unfold typeR
        simp only [if_neg h0]
        split
        · exact beq_eq_false_iff_ne.mpr h0
        · exact beq_eq_false_iff_ne.mpr h0
      rw [hw, if_neg ff_]
  · rw [if_neg h10, if_neg (show ¬ (kind = 10 ∧ whyI l cu lo ins a = 0) from fun hh => h10 hh.1), shutterref17_Do.j3, if_neg ff_]
theorem rkey_eq1 (K : Nat) (r c : Int) (l : List S55) (cu : Int) (lo ins : Bool) (kind ch : Int) (h : RightI r c l cu) (a0 : 0 ≤ ch) (a1 : ch ≤ 255) (hk : l.length + l.length + l.length + 40 < K) (t : kind = 1 ∨ kind = 10 ∨ kind = 11) :
    shutterref17_Do.f K r c l cu lo ins kind ch = some (ansK (keyF r c l cu lo ins kind ch)) := by
  obtain ⟨K, rfl⟩ : ∃ m, K = m + 2 := ⟨K - 2, by omega⟩
  unfold shutterref17_Do.f
  rcases t with rfl | rfl | rfl
  · rw [if_pos rfl, shutterref17_Do.j0, if_pos rfl, if_neg (by decide), shutterref17_Do.j1, if_neg (by decide), rkey_type K r c l cu lo ins 1 ch ch h a0 a1 (by omega), if_neg (fun hh => absurd hh.1 (by decide)), ← typeR_ans]
    simp [keyF, plainF]
  · rw [if_neg (by decide), if_pos rfl, shutterref17_Do.j0, if_pos rfl, if_pos rfl, shutterref17_Do.j1, if_neg (by decide), rkey_type K r c l cu lo ins 10 ch 28 h (by decide) (by decide) (by omega), ← typeR_ans]
    by_cases h0 : whyI l cu lo ins 28 = 0
    · rw [if_pos ⟨rfl, h0⟩]
      simp [keyF, plainF, dupF, h0, ansK, codeI, whereI]
    · rw [if_neg (fun hh => h0 hh.2)]
      simp [keyF, plainF, dupF, h0]
  · rw [if_neg (by decide), if_neg (by decide), show ((11 : Int) == 11) = true from rfl, shutterref17_Do.j0, if_pos rfl, if_neg (by decide), shutterref17_Do.j1, if_pos rfl, rkey_type K r c l cu lo ins 11 ch 30 h (by decide) (by decide) (by omega), if_neg (fun hh => absurd hh.1 (by decide)), ← typeR_ans]
    simp [keyF, plainF]
theorem rkey_eq2 (K : Nat) (r c : Int) (l : List S55) (cu : Int) (lo ins : Bool) (kind ch : Int) (h : RightI r c l cu) (hk : l.length + l.length + l.length + 40 < K) (t : ¬ (kind = 1 ∨ kind = 10 ∨ kind = 11)) (t17 : kind ≠ 17) :
    shutterref17_Do.f K r c l cu lo ins kind ch = some (ansK (keyF r c l cu lo ins kind ch)) := by
  have hn : l.length ≤ 16383 := by have := h.len; have := h.rc; omega
  obtain ⟨K, rfl⟩ : ∃ m, K = m + 5 := ⟨K - 5, by omega⟩
  unfold shutterref17_Do.f
  rw [if_neg (fun hh => t (.inl hh)), if_neg (fun hh => t (.inr (.inl hh))), show (kind == 11) = false from beq_eq_false_iff_ne.mpr (fun hh => t (.inr (.inr hh))), shutterref17_Do.j0, if_neg ff_]
  by_cases m : 2 ≤ kind ∧ kind ≤ 9
  · rw [if_pos m.1, decide_eq_true m.2, shutterref17_Do.j4, if_pos rfl, rmove_eq (K + 3) r c l cu lo ins kind h (by omega), Option.bind_some]
    unfold keyF plainF
    rw [if_neg t17]
    simp only [if_pos m]
    unfold moveF
    by_cases h0 : moveW lo kind = 0
    · simp only [if_pos h0, h0]; rfl
    · simp only [if_neg h0]; rfl
  · have e4 : (if kind ≥ 2 then shutterref17_Do.j4 (K + 4) (decide (kind ≤ 9)) r c l cu lo ins kind ch else shutterref17_Do.j4 (K + 4) false r c l cu lo ins kind ch) = shutterref17_Do.j4 (K + 4) false r c l cu lo ins kind ch := by
      by_cases h2 : kind ≥ 2
      · rw [if_pos h2, decide_eq_false (fun hh => m ⟨h2, hh⟩)]
      · rw [if_neg h2]
    rw [e4, shutterref17_Do.j4, if_neg ff_]
    by_cases w : 12 ≤ kind ∧ kind ≤ 14
    · rw [if_pos w.1, decide_eq_true w.2, shutterref17_Do.j5, if_pos rfl, rwipe_eq (K + 2) r c l cu lo ins kind h hn (by omega), Option.bind_some, ← wipeR_ans]
      unfold keyF plainF
      rw [if_neg t17]
      simp only [if_neg m, if_pos w]
    · have e5 : (if kind ≥ 12 then shutterref17_Do.j5 (K + 3) (decide (kind ≤ 14)) r c l cu lo ins kind ch else shutterref17_Do.j5 (K + 3) false r c l cu lo ins kind ch) = shutterref17_Do.j5 (K + 3) false r c l cu lo ins kind ch := by
        by_cases h2 : kind ≥ 12
        · rw [if_pos h2, decide_eq_false (fun hh => w ⟨h2, hh⟩)]
        · rw [if_neg h2]
      rw [e5, shutterref17_Do.j5, if_neg ff_, rCopy_eq r c l cu lo ins hn, Option.bind_some]
      by_cases h16 : kind = 16
      · subst h16; rfl
      · rw [if_neg h16]
        by_cases h15 : kind = 15
        · subst h15
          rw [if_pos rfl, shutterref17_Do.j6, if_neg ff_, if_neg (by decide), shutterref17_Do.j7, if_neg ff_]
          cases lo <;> rfl
        · rw [if_neg h15, show (kind != 17) = true from bne_iff_ne.mpr t17, shutterref17_Do.j6, if_pos rfl]
          unfold keyF plainF
          rw [if_neg t17]
          have n1 : ¬ kind = 1 := fun hh => t (.inl hh)
          have n2 : ¬ kind = 10 := fun hh => t (.inr (.inl hh))
          have n3 : ¬ kind = 11 := fun hh => t (.inr (.inr hh))
          have n4 : ¬ (kind = 15 ∨ kind = 16) := fun hh => hh.elim h15 h16
          simp only [if_neg m, if_neg w, if_neg n1, if_neg n2, if_neg n3, if_neg n4]; rfl
theorem raid_eq (a : Int) (a0 : 0 ≤ a) (a1 : a ≤ 255) : shutterref05_Aid.f a = some (aidI a) := by
  have hh : ∀ n : Fin 256, shutterref05_Aid.f (n.val : Int) = some (aidI (n.val : Int)) := by decide +kernel
  obtain ⟨n, rfl⟩ := Int.eq_ofNat_of_zero_le a0
  exact hh ⟨n, by omega⟩
theorem rkey_eq3 (K : Nat) (r c : Int) (l : List S55) (cu : Int) (lo ins : Bool) (ch : Int) (h : RightI r c l cu) (a0 : 0 ≤ ch) (a1 : ch ≤ 255) (hk : 40 < K) :
    shutterref17_Do.f K r c l cu lo ins 17 ch = some (ansK (keyF r c l cu lo ins 17 ch)) := by
  have hn : l.length ≤ 16383 := by have := h.len; have := h.rc; omega
  obtain ⟨K, rfl⟩ : ∃ m, K = m + 5 := ⟨K - 5, by omega⟩
  unfold shutterref17_Do.f
  rw [if_neg (by decide), if_neg (by decide), show ((17 : Int) == 11) = false from rfl, shutterref17_Do.j0, if_neg ff_, if_pos (by decide), show decide ((17 : Int) ≤ 9) = false from rfl, shutterref17_Do.j4, if_neg ff_, if_pos (by decide), show decide ((17 : Int) ≤ 14) = false from rfl, shutterref17_Do.j5, if_neg ff_, rCopy_eq r c l cu lo ins hn, Option.bind_some]
  rw [if_neg (by decide), if_neg (by decide), show ((17 : Int) != 17) = false from rfl, shutterref17_Do.j6, if_neg ff_, if_pos rfl, raid_eq ch a0 a1, Option.bind_some, shutterref17_Do.j7]
  unfold keyF asksF
  rw [if_pos rfl]
  cases hA : aidI ch with
  | false => rfl
  | true =>
    rw [show (!true) = false from rfl, if_neg ff_, if_neg tf_]
    cases lo with
    | true => rfl
    | false =>
      rw [if_neg ff_, if_neg ff_, if_neg (by decide)]
      by_cases h9 : ch = 109
      · rw [if_pos h9, if_pos h9, if_pos (by omega), if_pos (by omega)]; rfl
      · rw [if_neg h9, if_neg h9]; rfl
theorem rkey_eq (K : Nat) (r c : Int) (l : List S55) (cu : Int) (lo ins : Bool) (kind ch : Int) (h : RightI r c l cu) (a0 : 0 ≤ ch) (a1 : ch ≤ 255) (hk : l.length + l.length + l.length + 40 < K) :
    shutterref17_Do.f K r c l cu lo ins kind ch = some (ansK (keyF r c l cu lo ins kind ch)) := by
  by_cases t : kind = 1 ∨ kind = 10 ∨ kind = 11
  · exact rkey_eq1 K r c l cu lo ins kind ch h a0 a1 hk t
  · by_cases t17 : kind = 17
    · rw [t17]; exact rkey_eq3 K r c l cu lo ins ch h a0 a1 (by omega)
    · exact rkey_eq2 K r c l cu lo ins kind ch h hk t t17
end Go.Proofs.YtjpedimndkibnaaGreatDoor.P
namespace Go.Proofs.YtjpedimndkibnaaGreatDoor.P
open Go.RowKit Go.Proofs.YtjpedimndkibnaaGreatDoorW.PrintWords Go.Proofs.YtjpedimndkibnaaGreatDoorW.PrintLast
set_option linter.unusedVariables false
set_option linter.unusedSimpArgs false
theorem awake17_30 : shutterlaw17_awake.f 30 = some true := by decide +kernel
theorem awake17_eq (k : Nat) (hk : 30 ≤ k) : shutterlaw17_awake.f k = some true := by
  obtain ⟨d, rfl⟩ : ∃ d, k = 30 + d := ⟨k - 30, by omega⟩
  clear hk
  induction d with
  | zero => exact awake17_30
  | succ d ih => exact shutterlaw17_awake.mono _ _ ih
end Go.Proofs.YtjpedimndkibnaaGreatDoor.P
namespace Go.Proofs.YtjpedimndkibnaaGreatDoor.P
open Go.RowKit Go.Proofs.YtjpedimndkibnaaGreatDoorW.PrintWords Go.Proofs.YtjpedimndkibnaaGreatDoorW.PrintLast
set_option linter.unusedVariables false
set_option linter.unusedSimpArgs false
def OkE (e : Option Er) (s : List S206) : Prop := e = none ∨ (∃ n, e = some (Er.num n)) ∨ (∃ x, e = some Er.spot ∧ s = [x])
theorem code_ok {e : Option Er} {s : List S206} (h : OkE e s) : api_Code.f e s = some (codeI e s) := by
  rcases h with rfl | ⟨n, rfl⟩ | ⟨x, rfl, rfl⟩ <;> rfl
theorem where_ok {e : Option Er} {s : List S206} (h : OkE e s) : api_Where.f e s = some (whereI e s) := by
  rcases h with rfl | ⟨n, rfl⟩ | ⟨x, rfl, rfl⟩ <;> rfl
theorem refused_ok {e : Option Er} {s : List S206} (h : OkE e s) : keys_Refused.f e s = some (refusedI (codeI e s)) := by
  rcases h with rfl | ⟨n, rfl⟩ | ⟨x, rfl, rfl⟩ <;> rfl
theorem typeF_okE (r c : Int) (l : List S55) (cu : Int) (lo ins : Bool) (a : Int) : OkE (typeF r c l cu lo ins a).2.2.2.2.2.2.1 (typeF r c l cu lo ins a).2.2.2.2.2.2.2 ∧ (typeF r c l cu lo ins a).2.2.1.length = l.length := by
  unfold typeF; split
  · exact ⟨.inl rfl, outI_length l cu ins a⟩
  · split
    · exact ⟨.inr (.inl ⟨_, rfl⟩), rfl⟩
    · exact ⟨.inr (.inr ⟨_, rfl, rfl⟩), rfl⟩
theorem wipeF_okE (r c : Int) (l : List S55) (cu : Int) (lo ins : Bool) (a : Int) : OkE (wipeF r c l cu lo ins a).2.2.2.2.2.2.1 (wipeF r c l cu lo ins a).2.2.2.2.2.2.2 ∧ (wipeF r c l cu lo ins a).2.2.1.length = l.length := by
  unfold wipeF; split
  · exact ⟨.inl rfl, wipeI_length l cu a⟩
  · split
    · exact ⟨.inr (.inr ⟨_, rfl, rfl⟩), rfl⟩
    · exact ⟨.inr (.inl ⟨_, rfl⟩), rfl⟩
theorem plainF_okE (r c : Int) (l : List S55) (cu : Int) (lo ins : Bool) (kind ch : Int) : OkE (plainF r c l cu lo ins kind ch).2.2.2.2.2.2.1 (plainF r c l cu lo ins kind ch).2.2.2.2.2.2.2 ∧ (plainF r c l cu lo ins kind ch).2.2.1.length = l.length := by
  unfold plainF
  split
  · unfold moveF; split
    · exact ⟨.inl rfl, rfl⟩
    · exact ⟨.inr (.inl ⟨_, rfl⟩), rfl⟩
  · split
    · exact wipeF_okE ..
    · split
      · exact typeF_okE ..
      · split
        · exact typeF_okE ..
        · split
          · unfold dupF; split
            · exact ⟨.inl rfl, outI_length l cu ins 28⟩
            · exact typeF_okE ..
          · split
            · unfold setF; split
              · exact ⟨.inr (.inl ⟨_, rfl⟩), rfl⟩
              · exact ⟨.inl rfl, rfl⟩
            · exact ⟨.inr (.inl ⟨_, rfl⟩), rfl⟩
theorem keyF_okE (r c : Int) (l : List S55) (cu : Int) (lo ins : Bool) (kind ch : Int) : OkE (keyF r c l cu lo ins kind ch).2.2.2.2.2.2.2.1 (keyF r c l cu lo ins kind ch).2.2.2.2.2.2.2.2 ∧ (keyF r c l cu lo ins kind ch).2.2.1.length = l.length := by
  unfold keyF
  split
  · unfold asksF
    split
    · exact ⟨.inr (.inl ⟨_, rfl⟩), rfl⟩
    · split
      · exact ⟨.inr (.inl ⟨_, rfl⟩), rfl⟩
      · split
        · exact ⟨.inl rfl, List.length_replicate⟩
        · exact ⟨.inl rfl, rfl⟩
  · exact plainF_okE ..
theorem KeysDo_pure (r c : Int) (l : List S55) (cu : Int) (lo ins : Bool) (kind ch : Int) (wl : ∀ x ∈ l, wfC x) (a0 : 0 ≤ ch) (a1 : ch ≤ 255) : shutterlaw17_KeysDo.f 1000 r c l cu lo ins kind ch = some true := by
  unfold shutterlaw17_KeysDo.f
  rw [awake17_eq 1000 (by omega), Option.bind_some, if_pos rfl]
  obtain ⟨t, ht, hi⟩ := rFew_eq 1000 r c l cu lo ins (by omega)
  rw [ht, Option.bind_some]
  cases t with
  | false => rw [if_neg ff_, Option.bind_some]
  | true =>
    obtain ⟨hl, hr⟩ := hi.1 rfl
    obtain ⟨hE, hL⟩ := keyF_okE r c l cu lo ins kind ch
    rw [if_pos rfl, fkey_eq 1000 r c l cu lo ins kind ch hr a0 a1 (by omega), Option.bind_some, rkey_eq 1000 r c l cu lo ins kind ch hr a0 a1 (by omega), Option.bind_some]
    unfold ansK
    simp only
    rw [rSame_self 1000 _ _ _ _ _ _ (by omega) (by omega), Option.bind_some, if_pos rfl, if_pos (beq_self_eq_true _), code_ok hE, Option.bind_some, if_pos rfl, where_ok hE, Option.bind_some, if_pos rfl, refused_ok hE, Option.bind_some]
    unfold refusedI
    by_cases h7 : codeI (keyF r c l cu lo ins kind ch).2.2.2.2.2.2.2.1 (keyF r c l cu lo ins kind ch).2.2.2.2.2.2.2.2 ≥ 7
    · rw [if_pos h7]; congr 1; simp; omega
    · rw [if_neg h7]; congr 1; simp; omega
end Go.Proofs.YtjpedimndkibnaaGreatDoor.P
