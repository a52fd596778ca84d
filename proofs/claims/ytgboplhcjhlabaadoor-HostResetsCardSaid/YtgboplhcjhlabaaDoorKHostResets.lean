/-
HostResets over plain lists: what its functions come to, and that they answer true. No Go in it.
-/
import Derived.Test.YtgboplhcjhlabaaDoorPx10
import Derived.Test.YtgboplhcjhlabaaDoorPx17
import Derived.Test.YtgboplhcjhlabaaDoorPx4
import Derived.Test.YtgboplhcjhlabaaDoorPx5
import Derived.Test.YtgboplhcjhlabaaDoorPx9
import Derived.Test.YtgboplhcjhlabaaDoorPx14
import Derived.Test.YtgboplhcjhlabaaDoorPx15
import Derived.Test.YtgboplhcjhlabaaDoorPx13
import Derived.Test.YtgboplhcjhlabaaDoorPx6
import Derived.Test.YtgboplhcjhlabaaDoorPx7
import Derived.Test.YtgboplhcjhlabaaDoorPx18
import Derived.Test.YtgboplhcjhlabaaDoorPx11
import Derived.Test.YtgboplhcjhlabaaDoorPx12
import Derived.Test.YtgboplhcjhlabaaDoorPx13L
import Derived.Test.YtgboplhcjhlabaaDoorO0
import Derived.Test.YtgboplhcjhlabaaDoorPx14L
namespace Go.Proofs.YtgboplhcjhlabaaDoor.P
open Go.RowKit Go.Proofs.YtgboplhcjhlabaaDoorW.PrintWords Go.Proofs.YtgboplhcjhlabaaDoorW.PrintLast
set_option linter.unusedVariables false
set_option linter.unusedSimpArgs false

theorem w64 {x : Int} (h : -9223372036854775808 ≤ x ∧ x ≤ 9223372036854775807) : wrap64 x = x := by unfold wrap64; omega

theorem isF_rd (l : List S44) (i : Int) : (rd_T44 l i).f0 = isF l i := rfl
theorem rd_nat (l : List S44) (i : Nat) (h : i < l.length) : rd_T44 l (i : Int) = l[i] := rd_getElem l i h
/-- a cell is right -/
def okC (x : S44) : Bool := if x.f0 = true then (x.f2 == 0 && (decide (0 ≤ x.f1.f2) && decide (x.f1.f2 ≤ 3))) else ((!x.f1.f0 && (!x.f1.f1 && (x.f1.f2 == 0 && (!x.f1.f3)))) && (x.f2 == 0 || (x.f2 == 28 || (x.f2 == 30 || (decide (64 ≤ x.f2) && decide (x.f2 ≤ 254))))))
theorem rCell_eq (x : S44) : shutterref10_Cell.f x.f0 x.f1.f0 x.f1.f1 x.f1.f2 x.f1.f3 x.f2 = some (okC x) := by
  unfold shutterref10_Cell.f okC
  by_cases h : x.f0 = true
  · rw [if_pos h, if_pos h]
    by_cases h2 : x.f2 = 0
    · rw [if_pos h2]
      by_cases h3 : x.f1.f2 ≥ 0
      · rw [if_pos h3]; simp [h2]; intro _; omega
      · rw [if_neg h3]; simp [h2]; intro _; omega
    · rw [if_neg h2]; simp [h2]
  · rw [if_neg h, if_neg h]
    cases hA : (!x.f1.f0 && (!x.f1.f1 && (x.f1.f2 == 0 && (!x.f1.f3))))
    · simp
    · simp only [if_true, Bool.true_and]
      unfold shutterref05_Char.f
      by_cases e0 : x.f2 = 0
      · simp [e0]
      · by_cases e1 : x.f2 = 28
        · simp [e1]
        · by_cases e2 : x.f2 = 30
          · simp [e2]
          · by_cases e3 : x.f2 ≥ 64
            · rw [if_neg e0, if_neg e1, if_neg e2, if_pos e3, beq_eq_false_iff_ne.2 e0, beq_eq_false_iff_ne.2 e1, beq_eq_false_iff_ne.2 e2, decide_eq_true (show 64 ≤ x.f2 from e3)]; rfl
            · rw [if_neg e0, if_neg e1, if_neg e2, if_neg e3, beq_eq_false_iff_ne.2 e0, beq_eq_false_iff_ne.2 e1, beq_eq_false_iff_ne.2 e2, decide_eq_false (show ¬ 64 ≤ x.f2 from e3)]; rfl

/-- a screen is right -/
structure RightI (r c : Int) (l : List S44) (cu : Int) : Prop where
  r1 : 1 ≤ r
  c1 : 1 ≤ c
  r2 : r ≤ 16383
  c2 : c ≤ 16383
  rc : r * c ≤ 16383
  len : (l.length : Int) = r * c
  cu0 : 0 ≤ cu
  cu1 : cu < l.length
  ok : ∀ x ∈ l, okC x = true

theorem rRight_loop (r c : Int) (l : List S44) (cu : Int) (lo ins : Bool) (hn : l.length ≤ 16383) : ∀ (d k i : Nat), d + i = l.length → d < k → shutterref10_Right.l0 k i r c l cu lo ins = some ((l.drop i).all okC)
  | 0, k, i, hd, hk => by
    obtain ⟨k, rfl⟩ : ∃ m, k = m + 1 := ⟨k - 1, by omega⟩
    rw [shutterref10_Right.l0, if_neg (by omega), List.drop_eq_nil_of_le (by omega)]; rfl
  | d + 1, k, i, hd, hk => by
    obtain ⟨k, rfl⟩ : ∃ m, k = m + 1 := ⟨k - 1, by omega⟩
    rw [shutterref10_Right.l0, if_pos (by omega), if_pos (by omega), rd_nat l i (by omega), rCell_eq, Option.bind_some, List.drop_eq_getElem_cons (by omega : i < l.length), List.all_cons]
    cases h : okC l[i]
    · simp
    · simp only [if_true, Bool.true_and]
      rw [w64 (by omega)]
      exact rRight_loop r c l cu lo ins hn d k (i + 1) (by omega) (by omega)
theorem prod_bd {r c : Int} (h1 : 1 ≤ r) (h2 : r ≤ 16383) (h3 : 1 ≤ c) (h4 : c ≤ 16383) : 1 ≤ r * c ∧ r * c ≤ 268402689 := by
  constructor
  · have := Int.mul_le_mul h1 h3 (by omega) (by omega); omega
  · have := Int.mul_le_mul h2 h4 (by omega) (by omega); omega
theorem rRight_eq (k : Nat) (r c : Int) (l : List S44) (cu : Int) (lo ins : Bool) (hk : l.length + 1 < k) (hn : l.length ≤ 16383) : ∃ b, shutterref10_Right.f k r c l cu lo ins = some b ∧ (b = true ↔ RightI r c l cu) := by
  obtain ⟨k, rfl⟩ : ∃ m, k = m + 1 := ⟨k - 1, by omega⟩
  unfold shutterref10_Right.f shutterref10_Sized.f
  have no : (¬ RightI r c l cu) → ∃ b, some false = some b ∧ (b = true ↔ RightI r c l cu) := fun h => ⟨false, rfl, by simp [h]⟩
  have jt : shutterref10_Right.j0 (k + 1) true r c l cu lo ins = some false := by rw [shutterref10_Right.j0, if_pos rfl]
  by_cases h1 : r ≥ 1
  · rw [if_pos h1]
    by_cases h2 : c ≥ 1
    · rw [if_pos h2]
      by_cases h3 : r ≤ 16383
      · rw [if_pos h3]
        by_cases h4 : c ≤ 16383
        · have hb := prod_bd h1 h3 h2 h4
          rw [if_pos h4, Option.bind_some, w64 (by omega)]
          by_cases h5 : r * c ≤ 16383
          · rw [if_pos (decide_eq_true h5)]
            by_cases h6 : (l.length : Int) = r * c
            · rw [if_pos h6]
              by_cases h7 : cu < 0
              · rw [if_pos h7, jt]; exact no (fun h => by have := h.cu0; omega)
              · rw [if_neg h7, shutterref10_Right.j0]
                by_cases h8 : cu ≥ l.length
                · rw [if_pos (decide_eq_true h8)]; exact no (fun h => by have := h.cu1; omega)
                · rw [if_neg (by simp; omega)]
                  have := rRight_loop r c l cu lo ins hn l.length k 0 rfl (by omega)
                  rw [show ((0 : Nat) : Int) = 0 from rfl] at this
                  rw [this, List.drop_zero]
                  refine ⟨_, rfl, ?_⟩
                  rw [List.all_eq_true]
                  exact ⟨fun h => ⟨h1, h2, h3, h4, h5, h6, by omega, by omega, h⟩, fun h => h.ok⟩
            · rw [if_neg h6, jt]; exact no (fun h => h6 h.len)
          · rw [if_neg (by simp; omega), jt]; exact no (fun h => h5 h.rc)
        · rw [if_neg h4, Option.bind_some, if_neg (by decide), jt]; exact no (fun h => h4 h.c2)
      · rw [if_neg h3, Option.bind_some, if_neg (by decide), jt]; exact no (fun h => h3 h.r2)
    · rw [if_neg h2, Option.bind_some, if_neg (by decide), jt]; exact no (fun h => h2 h.c1)
  · rw [if_neg h1, Option.bind_some, if_neg (by decide), jt]; exact no (fun h => h1 h.r1)
theorem rFew_eq (k : Nat) (r c : Int) (l : List S44) (cu : Int) (lo ins : Bool) (hk : 202 < k) : ∃ b, shutterref10_Few.f k r c l cu lo ins = some b ∧ (b = true ↔ l.length ≤ 200 ∧ RightI r c l cu) := by
  unfold shutterref10_Few.f
  by_cases h : (l.length : Int) ≤ 200
  · obtain ⟨b, hb, hi⟩ := rRight_eq k r c l cu lo ins (by omega) (by omega)
    rw [if_pos h, hb, Option.bind_some]
    exact ⟨b, rfl, hi.trans ⟨fun x => ⟨by omega, x⟩, fun x => x.2⟩⟩
  · rw [if_neg h]; exact ⟨false, rfl, by simp; intro h'; omega⟩
end Go.Proofs.YtgboplhcjhlabaaDoor.P
namespace Go.Proofs.YtgboplhcjhlabaaDoor.P
open Go.RowKit Go.Proofs.YtgboplhcjhlabaaDoorW.PrintWords Go.Proofs.YtgboplhcjhlabaaDoorW.PrintLast
set_option linter.unusedVariables false
set_option linter.unusedSimpArgs false

end Go.Proofs.YtgboplhcjhlabaaDoor.P
namespace Go.Proofs.YtgboplhcjhlabaaDoor.P
open Go.RowKit Go.Proofs.YtgboplhcjhlabaaDoorW.PrintWords Go.Proofs.YtgboplhcjhlabaaDoorW.PrintLast
set_option linter.unusedVariables false
set_option linter.unusedSimpArgs false

theorem cell_ext {x y : S44} (h0 : x.f0 = y.f0) (h1 : x.f1.f0 = y.f1.f0) (h2 : x.f1.f1 = y.f1.f1) (h3 : x.f1.f2 = y.f1.f2) (h4 : x.f1.f3 = y.f1.f3) (h5 : x.f2 = y.f2) : x = y := by
  obtain ⟨x0, ⟨x1, x2, x3, x4⟩, x5⟩ := x
  obtain ⟨y0, ⟨y1, y2, y3, y4⟩, y5⟩ := y
  simp only at h0 h1 h2 h3 h4 h5
  subst h0 h1 h2 h3 h4 h5
  rfl
theorem rSame_loop (r c : Int) (l : List S44) (cu : Int) (lo ins : Bool) (r' c' : Int) (l' : List S44) (cu' : Int) (lo' ins' : Bool) (hn : l.length ≤ 16383) (hl : l.length = l'.length) : ∀ (d k i : Nat), d + i = l.length → d < k → ∃ b, shutterref10_Same.l0 k i r c l cu lo ins r' c' l' cu' lo' ins' = some b ∧ (b = true ↔ l.drop i = l'.drop i)
  | 0, k, i, hd, hk => by
    obtain ⟨k, rfl⟩ : ∃ m, k = m + 1 := ⟨k - 1, by omega⟩
    rw [shutterref10_Same.l0, if_neg (by omega), List.drop_eq_nil_of_le (by omega), List.drop_eq_nil_of_le (by omega)]
    exact ⟨true, rfl, by simp⟩
  | d + 1, k, i, hd, hk => by
    obtain ⟨k, rfl⟩ : ∃ m, k = m + 1 := ⟨k - 1, by omega⟩
    rw [shutterref10_Same.l0, if_pos (by omega), if_pos (by omega), if_pos (by omega), rd_nat l i (by omega), rd_nat l' i (by omega), List.drop_eq_getElem_cons (by omega : i < l.length), List.drop_eq_getElem_cons (by omega : i < l'.length)]
    generalize l[i]'(by omega) = x
    generalize l'[i]'(by omega) = y
    by_cases h : (!(x.f0 == y.f0) || ((!(x.f1.f0 == y.f1.f0) || (!(x.f1.f1 == y.f1.f1) || (!(x.f1.f2 == y.f1.f2) || (!(x.f1.f3 == y.f1.f3))))) || (!(x.f2 == y.f2)))) = true
    · rw [if_pos h]
      refine ⟨false, rfl, ?_⟩
      simp only [Bool.false_eq_true, false_iff]
      intro e
      obtain rfl := (List.cons.inj e).1
      simp at h
    · rw [if_neg h, w64 (by omega)]
      simp only [Bool.or_eq_true, Bool.not_eq_true', beq_eq_false_iff_ne, not_or, Decidable.not_not, ne_eq] at h
      obtain ⟨h0, ⟨h1, h2, h3, h4⟩, h5⟩ := h
      obtain rfl := cell_ext h0 h1 h2 h3 h4 h5
      obtain ⟨b, hb, hi⟩ := rSame_loop r c l cu lo ins r' c' l' cu' lo' ins' hn hl d k (i + 1) (by omega) (by omega)
      refine ⟨b, hb, hi.trans ?_⟩
      constructor
      · intro e; rw [e]
      · intro e; exact (List.cons.inj e).2
theorem rSame_eq (k : Nat) (r c : Int) (l : List S44) (cu : Int) (lo ins : Bool) (r' c' : Int) (l' : List S44) (cu' : Int) (lo' ins' : Bool) (hn : l.length ≤ 16383) (hk : l.length + 1 < k) : ∃ b, shutterref10_Same.f k r c l cu lo ins r' c' l' cu' lo' ins' = some b ∧ (b = true ↔ r = r' ∧ c = c' ∧ l = l' ∧ cu = cu' ∧ lo = lo' ∧ ins = ins') := by
  obtain ⟨k, rfl⟩ : ∃ m, k = m + 1 := ⟨k - 1, by omega⟩
  unfold shutterref10_Same.f
  have jt : shutterref10_Same.j0 (k + 1) true r c l cu lo ins r' c' l' cu' lo' ins' = some false := by rw [shutterref10_Same.j0, if_pos rfl]
  have no : (¬ (r = r' ∧ c = c' ∧ l = l' ∧ cu = cu' ∧ lo = lo' ∧ ins = ins')) → ∃ b, some false = some b ∧ (b = true ↔ r = r' ∧ c = c' ∧ l = l' ∧ cu = cu' ∧ lo = lo' ∧ ins = ins') := fun h => ⟨false, rfl, by simp only [Bool.false_eq_true, false_iff]; exact h⟩
  by_cases h1 : r = r'
  · rw [if_pos h1]
    by_cases h2 : c = c'
    · rw [if_pos h2]
      by_cases h3 : cu = cu'
      · rw [if_pos h3]
        by_cases h4 : lo = lo'
        · rw [if_neg (by simp [h4])]
          by_cases h5 : ins = ins'
          · rw [if_neg (by simp [h5]), shutterref10_Same.j0]
            by_cases h6 : l.length = l'.length
            · rw [if_neg (by simp [h6])]
              obtain ⟨b, hb, hi⟩ := rSame_loop r c l cu lo ins r' c' l' cu' lo' ins' hn h6 l.length k 0 rfl (by omega)
              rw [show ((0 : Nat) : Int) = 0 from rfl] at hb
              rw [hb]
              refine ⟨b, rfl, hi.trans ?_⟩
              rw [List.drop_zero, List.drop_zero]
              exact ⟨fun e => ⟨h1, h2, e, h3, h4, h5⟩, fun e => e.2.2.1⟩
            · rw [if_pos (by simp; omega)]; exact no (fun h => h6 (by rw [h.2.2.1]))
          · rw [if_pos (by simpa using h5), jt]; exact no (fun h => h5 h.2.2.2.2.2)
        · rw [if_pos (by simpa using h4), jt]; exact no (fun h => h4 h.2.2.2.2.1)
      · rw [if_neg h3, jt]; exact no (fun h => h3 h.2.2.2.1)
    · rw [if_neg h2, jt]; exact no (fun h => h2 h.2.1)
  · rw [if_neg h1, jt]; exact no (fun h => h1 h.1)
theorem rSame_self (k : Nat) (r c : Int) (l : List S44) (cu : Int) (lo ins : Bool) (hn : l.length ≤ 16383) (hk : l.length + 1 < k) : shutterref10_Same.f k r c l cu lo ins r c l cu lo ins = some true := by
  obtain ⟨b, hb, hi⟩ := rSame_eq k r c l cu lo ins r c l cu lo ins hn hk
  rw [hb, hi.2 ⟨rfl, rfl, rfl, rfl, rfl, rfl⟩]
theorem rCopy_eq (r c : Int) (l : List S44) (cu : Int) (lo ins : Bool) (hn : l.length ≤ 16383) : shutterref10_Copy.f r c l cu lo ins = some (r, c, l, cu, lo, ins) := by
  unfold shutterref10_Copy.f
  simp only [Option.bind_some, List.length_nil, List.nil_append]
  rw [if_pos (by omega)]

end Go.Proofs.YtgboplhcjhlabaaDoor.P
namespace Go.Proofs.YtgboplhcjhlabaaDoor.P
open Go.RowKit Go.Proofs.YtgboplhcjhlabaaDoorW.PrintWords Go.Proofs.YtgboplhcjhlabaaDoorW.PrintLast
set_option linter.unusedVariables false
set_option linter.unusedSimpArgs false

end Go.Proofs.YtgboplhcjhlabaaDoor.P
namespace Go.Proofs.YtgboplhcjhlabaaDoor.P
open Go.RowKit Go.Proofs.YtgboplhcjhlabaaDoorW.PrintWords Go.Proofs.YtgboplhcjhlabaaDoorW.PrintLast
set_option linter.unusedVariables false
set_option linter.unusedSimpArgs false
end Go.Proofs.YtgboplhcjhlabaaDoor.P
namespace Go.Proofs.YtgboplhcjhlabaaDoor.P
open Go.RowKit Go.Proofs.YtgboplhcjhlabaaDoorW.PrintWords Go.Proofs.YtgboplhcjhlabaaDoorW.PrintLast
set_option linter.unusedVariables false
set_option linter.unusedSimpArgs false
end Go.Proofs.YtgboplhcjhlabaaDoor.P
namespace Go.Proofs.YtgboplhcjhlabaaDoor.P
open Go.RowKit Go.Proofs.YtgboplhcjhlabaaDoorW.PrintWords Go.Proofs.YtgboplhcjhlabaaDoorW.PrintLast
set_option linter.unusedVariables false
set_option linter.unusedSimpArgs false
theorem pos_ {α : Type} {P : Prop} [Decidable P] {x y z : α} (h : P) (e : x = z) : (if P then x else y) = z := by rw [if_pos h]; exact e
theorem neg_ {α : Type} {P : Prop} [Decidable P] {x y z : α} (h : ¬ P) (e : y = z) : (if P then x else y) = z := by rw [if_neg h]; exact e
theorem rd_set (l : List S44) (x y : Int) (v : S44) (x0 : 0 ≤ x) (x1 : x < l.length) (y0 : 0 ≤ y) : rd_T44 (l.set (x : Int).toNat v) y = if x = y then v else rd_T44 l y := by
  obtain ⟨m, rfl⟩ := Int.eq_ofNat_of_zero_le x0
  obtain ⟨n, rfl⟩ := Int.eq_ofNat_of_zero_le y0
  simp only [rd_T44, Int.toNat_natCast, List.getD_eq_getElem?_getD, List.getElem?_set]
  by_cases h : m = n
  · subst h; rw [if_pos rfl, if_pos rfl, if_pos (by omega)]; rfl
  · rw [if_neg h, if_neg (by omega)]
theorem cells_ext {l l' : List S44} (hl : l.length = l'.length) (h : ∀ y : Int, 0 ≤ y → y < l.length → rd_T44 l y = rd_T44 l' y) : l = l' := by
  apply List.ext_getElem hl
  intro i h1 h2
  have := h (i : Int) (by omega) (by omega)
  rwa [rd_nat l i h1, rd_nat l' i h2] at this
theorem rd_mem_cells (l : List S44) (x : Int) (x0 : 0 ≤ x) (x1 : x < l.length) : rd_T44 l x ∈ l := by
  obtain ⟨m, rfl⟩ := Int.eq_ofNat_of_zero_le x0
  rw [rd_nat l m (by omega)]; exact List.getElem_mem _
def newC (a : Int) : S44 := ⟨false, ⟨false, false, 0, false⟩, a⟩
/-- a cell of a right screen that begins no field bears a character alone -/
theorem plain_cell {l : List S44} (ok : ∀ x ∈ l, okC x = true) (x : Int) (x0 : 0 ≤ x) (x1 : x < l.length) (h : isF l x = false) : rd_T44 l x = newC (rd_T44 l x).f2 := by
  have := ok _ (rd_mem_cells l x x0 x1)
  unfold isF at h
  revert this h
  generalize rd_T44 l x = z
  obtain ⟨z0, ⟨z1, z2, z3, z4⟩, z5⟩ := z
  intro h this
  change z0 = false at h
  subst h
  unfold okC at this
  simp only [Bool.false_eq_true, if_false, Bool.and_eq_true, Bool.not_eq_true', beq_iff_eq] at this
  obtain ⟨⟨e1, e2, e3, e4⟩, _⟩ := this
  subst e1 e2 e3 e4
  rfl
end Go.Proofs.YtgboplhcjhlabaaDoor.P
namespace Go.Proofs.YtgboplhcjhlabaaDoor.P
open Go.RowKit Go.Proofs.YtgboplhcjhlabaaDoorW.PrintWords Go.Proofs.YtgboplhcjhlabaaDoorW.PrintLast
set_option linter.unusedVariables false
set_option linter.unusedSimpArgs false
def sweep (p : Int → Bool) (g : S44 → S44) : Nat → Int → List S44 → List S44
  | 0, _, a => a
  | d + 1, x, a => sweep p g d (x + 1) (if p x = true then a.set (x : Int).toNat (g (rd_T44 a x)) else a)
theorem sweep_length (p : Int → Bool) (g : S44 → S44) : ∀ d x a, (sweep p g d x a).length = a.length
  | 0, x, a => rfl
  | d + 1, x, a => by
    unfold sweep; rw [sweep_length p g d]; split
    · rw [List.length_set]
    · rfl
theorem sweep_rd (p : Int → Bool) (g : S44 → S44) : ∀ (d : Nat) (x : Int) (a : List S44), 0 ≤ x → x + d ≤ a.length → ∀ y : Int, 0 ≤ y → rd_T44 (sweep p g d x a) y = if x ≤ y ∧ y < x + d ∧ p y = true then g (rd_T44 a y) else rd_T44 a y
  | 0, x, a, x0, hx, y, y0 => by rw [if_neg (by omega)]; rfl
  | d + 1, x, a, x0, hx, y, y0 => by
    unfold sweep
    have hl : (if p x = true then a.set (x : Int).toNat (g (rd_T44 a x)) else a).length = a.length := by split <;> simp
    rw [sweep_rd p g d (x + 1) _ (by omega) (by rw [hl]; omega) y y0]
    by_cases hp : p x = true
    · rw [if_pos hp, rd_set a x y _ x0 (by omega) y0]
      by_cases e : x = y
      · subst e; rw [if_neg (by omega), if_pos rfl, if_pos ⟨by omega, by omega, hp⟩]
      · rw [if_neg e]
        by_cases h : x + 1 ≤ y ∧ y < x + 1 + d ∧ p y = true
        · rw [if_pos h, if_pos ⟨by omega, by omega, h.2.2⟩]
        · rw [if_neg h, if_neg (fun h' => h ⟨by omega, by omega, h'.2.2⟩)]
    · rw [if_neg hp]
      by_cases h : x + 1 ≤ y ∧ y < x + 1 + d ∧ p y = true
      · rw [if_pos h, if_pos ⟨by omega, by omega, h.2.2⟩]
      · rw [if_neg h, if_neg (fun h' => h ⟨by
          have : x ≠ y := fun e => hp (by rw [e]; exact h'.2.2)
          omega, by omega, h'.2.2⟩)]
theorem rd_map (all : Bool) (l : List S44) (y : Int) (y0 : 0 ≤ y) (y1 : y < l.length) : rd_T44 (l.map (resetC all)) y = resetC all (rd_T44 l y) := by
  obtain ⟨m, rfl⟩ := Int.eq_ofNat_of_zero_le y0
  rw [rd_nat l m (by omega), rd_nat _ m (by rw [List.length_map]; omega), List.getElem_map]
end Go.Proofs.YtgboplhcjhlabaaDoor.P
namespace Go.Proofs.YtgboplhcjhlabaaDoor.P
open Go.RowKit Go.Proofs.YtgboplhcjhlabaaDoorW.PrintWords Go.Proofs.YtgboplhcjhlabaaDoorW.PrintLast
set_option linter.unusedVariables false
set_option linter.unusedSimpArgs false
def unmC (c : S44) : S44 := ⟨c.f0, ⟨c.f1.f0, c.f1.f1, c.f1.f2, false⟩, c.f2⟩
def resP (all : Bool) (l : List S44) (y : Int) : Bool := isF l y && (all || !(rd_T44 l y).f1.f0)
theorem rreset_loop (all : Bool) (r c : Int) (l : List S44) (cu : Int) (lo ins : Bool) (hn : l.length ≤ 16383) (r' c' cu' : Int) (lo' ins' : Bool) : ∀ (d K : Nat) (x : Int) (a : List S44), 0 ≤ x → x + d = l.length → a.length = l.length → d < K →
    shutterref13_Reset.l0 K all x r c l cu lo ins r' c' a cu' lo' ins' = some (r', c', sweep (resP all l) unmC d x a, cu', lo', ins')
  | 0, K, x, a, x0, hx, ha, hk => by
    obtain ⟨K, rfl⟩ : ∃ m, K = m + 1 := ⟨K - 1, by omega⟩
    rw [shutterref13_Reset.l0, if_neg (by omega)]; rfl
  | d + 1, K, x, a, x0, hx, ha, hk => by
    obtain ⟨K, rfl⟩ : ∃ m, K = m + 1 := ⟨K - 1, by omega⟩
    have i1 := rreset_loop all r c l cu lo ins hn r' c' cu' lo' ins' d K (x + 1) (a.set (x : Int).toNat (unmC (rd_T44 a x))) (by omega) (by omega) (by rw [List.length_set]; exact ha) (by omega)
    have i2 := rreset_loop all r c l cu lo ins hn r' c' cu' lo' ins' d K (x + 1) a (by omega) (by omega) ha (by omega)
    rw [shutterref13_Reset.l0, w64 (by omega)]
    refine pos_ (by omega) (pos_ x0 (pos_ (by omega) ?_))
    unfold sweep
    cases hf : isF l x with
    | false =>
      rw [if_neg (show ¬ resP all l x = true by unfold resP; rw [hf]; simp)]
      exact neg_ (by rw [isF_rd, hf]; decide) i2
    | true =>
      refine pos_ ((isF_rd l x).trans hf) ?_
      cases all with
      | true =>
        rw [if_pos (show resP true l x = true by unfold resP; rw [hf]; rfl)]
        exact pos_ rfl i1
      | false =>
        refine neg_ (by decide) ?_
        cases hp : (rd_T44 l x).f1.f0 with
        | true =>
          rw [if_neg (show ¬ resP false l x = true by unfold resP; rw [hf, hp]; simp)]
          exact pos_ rfl i2
        | false =>
          rw [if_pos (show resP false l x = true by unfold resP; rw [hf, hp]; rfl)]
          exact neg_ (by decide) i1
theorem resP_map (all : Bool) (l : List S44) (ok : ∀ x ∈ l, okC x = true) : sweep (resP all l) unmC l.length 0 l = l.map (resetC all) := by
  refine cells_ext (by rw [sweep_length, List.length_map]) fun y y0 y1 => ?_
  rw [sweep_length] at y1
  rw [sweep_rd _ _ l.length 0 l (by omega) (by omega) y y0, rd_map all l y y0 y1]
  cases hf : isF l y with
  | false =>
    rw [if_neg (fun h => by have := h.2.2; unfold resP at this; rw [hf] at this; cases this)]
    have hp := plain_cell ok y y0 y1 hf
    rw [hp]; unfold resetC newC; split <;> rfl
  | true =>
    unfold resetC
    by_cases h : (all || !(rd_T44 l y).f1.f0) = true
    · rw [if_pos h, if_pos ⟨by omega, by omega, by unfold resP; rw [hf, h]; rfl⟩]; rfl
    · rw [if_neg h, if_neg (fun h' => by have := h'.2.2; unfold resP at this; rw [hf, Bool.true_and] at this; exact h this)]
theorem rreset_eq (K : Nat) (r c : Int) (l : List S44) (cu : Int) (lo ins all : Bool) (hn : l.length ≤ 16383) (ok : ∀ x ∈ l, okC x = true) (hk : l.length < K) : shutterref13_Reset.f K r c l cu lo ins all = some (r, c, l.map (resetC all), cu, lo, ins) := by
  unfold shutterref13_Reset.f
  rw [rCopy_eq r c l cu lo ins hn, Option.bind_some, rreset_loop all r c l cu lo ins hn r c cu lo ins l.length K 0 l (by omega) (by omega) rfl hk, resP_map all l ok]
end Go.Proofs.YtgboplhcjhlabaaDoor.P
namespace Go.Proofs.YtgboplhcjhlabaaDoor.P
open Go.RowKit Go.Proofs.YtgboplhcjhlabaaDoorW.PrintWords Go.Proofs.YtgboplhcjhlabaaDoorW.PrintLast
set_option linter.unusedVariables false
set_option linter.unusedSimpArgs false
end Go.Proofs.YtgboplhcjhlabaaDoor.P
namespace Go.Proofs.YtgboplhcjhlabaaDoor.P
open Go.RowKit Go.Proofs.YtgboplhcjhlabaaDoorW.PrintWords Go.Proofs.YtgboplhcjhlabaaDoorW.PrintLast
set_option linter.unusedVariables false
set_option linter.unusedSimpArgs false
theorem awake13_30 : shutterlaw13_awake.f 30 = some true := by decide +kernel
theorem awake13_eq (k : Nat) (hk : 30 ≤ k) : shutterlaw13_awake.f k = some true := by
  obtain ⟨d, rfl⟩ : ∃ d, k = 30 + d := ⟨k - 30, by omega⟩
  clear hk
  induction d with
  | zero => exact awake13_30
  | succ d ih => exact shutterlaw13_awake.mono _ _ ih
end Go.Proofs.YtgboplhcjhlabaaDoor.P
namespace Go.Proofs.YtgboplhcjhlabaaDoor.P
open Go.RowKit Go.Proofs.YtgboplhcjhlabaaDoorW.PrintWords Go.Proofs.YtgboplhcjhlabaaDoorW.PrintLast
set_option linter.unusedVariables false
set_option linter.unusedSimpArgs false
theorem HostResets_pure (r c : Int) (l : List S44) (cu : Int) (lo ins : Bool) (all : Bool) (wl : ∀ x ∈ l, wfC x) : shutterlaw13_HostResets.f 1000 r c l cu lo ins all = some true := by
  unfold shutterlaw13_HostResets.f
  rw [awake13_eq 1000 (by omega), Option.bind_some, if_pos rfl]
  obtain ⟨t, ht, hi⟩ := rFew_eq 1000 r c l cu lo ins (by omega)
  rw [ht, Option.bind_some]
  cases t with
  | false => rw [if_neg (by decide), Option.bind_some]
  | true =>
    obtain ⟨hl, hr⟩ := hi.1 rfl
    rw [if_pos rfl, show host_Reset.f r c l cu lo ins all = some (r, c, l.map (resetC all), cu, lo, ins) by unfold host_Reset.f; rw [if_pos (by omega)], Option.bind_some, rreset_eq 1000 r c l cu lo ins all (by omega) hr.ok (by omega), Option.bind_some, rSame_self 1000 r c _ cu lo ins (by rw [List.length_map]; omega) (by rw [List.length_map]; omega), Option.bind_some]
end Go.Proofs.YtgboplhcjhlabaaDoor.P
