/-
WipeHost over plain lists: what its functions come to, and that they answer true. No Go in it.
-/
import Derived.Test.YtgboplhcjhlabaaDoorPx10
import Derived.Test.YtgboplhcjhlabaaDoorPx17
import Derived.Test.YtgboplhcjhlabaaDoorPx4
import Derived.Test.YtgboplhcjhlabaaDoorPx5
import Derived.Test.YtgboplhcjhlabaaDoorPx9
import Derived.Test.YtgboplhcjhlabaaDoorPx14
import Derived.Test.YtgboplhcjhlabaaDoorPx15
import Derived.Test.YtgboplhcjhlabaaDoorPx13
import Derived.Test.YtgboplhcjhlabaaDoorPx6
import Derived.Test.YtgboplhcjhlabaaDoorPx7
import Derived.Test.YtgboplhcjhlabaaDoorPx18
import Derived.Test.YtgboplhcjhlabaaDoorPx11
import Derived.Test.YtgboplhcjhlabaaDoorPx12
import Derived.Test.YtgboplhcjhlabaaDoorPx19L
import Derived.Test.YtgboplhcjhlabaaDoorO0
import Derived.Test.YtgboplhcjhlabaaDoorPx19L1
namespace Go.Proofs.YtgboplhcjhlabaaDoor.P
open Go.RowKit Go.Proofs.YtgboplhcjhlabaaDoorW.PrintWords Go.Proofs.YtgboplhcjhlabaaDoorW.PrintLast
set_option linter.unusedVariables false
set_option linter.unusedSimpArgs false

theorem w64 {x : Int} (h : -9223372036854775808 ≤ x ∧ x ≤ 9223372036854775807) : wrap64 x = x := by unfold wrap64; omega

theorem isF_rd (l : List S44) (i : Int) : (rd_T44 l i).f0 = isF l i := rfl
theorem fBegin_eq (r c : Int) (l : List S44) (cu : Int) (lo ins : Bool) (a : Int) (hn : l.length ≤ 16383) (h0 : 0 ≤ a) (h1 : a < l.length) : field_Begin.f r c l cu lo ins a = some (beginI l a) := by
  unfold field_Begin.f; rw [if_pos hn, if_pos h0, if_pos h1]

theorem fCells_eq (r c : Int) (l : List S44) (cu : Int) (lo ins : Bool) (a : Int) (hn : l.length ≤ 16383) (h0 : 0 ≤ a) (h1 : a < l.length) : field_Cells.f r c l cu lo ins a = some (cellsI l a) := by
  unfold field_Cells.f; rw [if_pos hn, if_pos h0, if_pos h1]
theorem fNext_eq (r c : Int) (l : List S44) (cu : Int) (lo ins : Bool) (a : Int) (hn : l.length ≤ 16383) (h0 : 0 ≤ a) (h1 : a < l.length) : field_Next.f r c l cu lo ins a = some (nextI l a) := by
  unfold field_Next.f; rw [if_pos hn, if_pos h0, if_pos h1]
theorem rd_nat (l : List S44) (i : Nat) (h : i < l.length) : rd_T44 l (i : Int) = l[i] := rd_getElem l i h
/-- a cell's field's attribute -/
def ofI (l : List S44) (a : Int) : S28 := if beginI l a < 0 then ⟨false, false, 0, false⟩ else (rd_T44 l (beginI l a)).f1
/-- a cell is open -/
def openI (l : List S44) (a : Int) : Bool := !isF l a && !(ofI l a).f0
theorem fOf_eq (r c : Int) (l : List S44) (cu : Int) (lo ins : Bool) (a : Int) (hn : l.length ≤ 16383) (h0 : 0 ≤ a) (h1 : a < l.length) : field_Of.f r c l cu lo ins a = some ((ofI l a).f0, (ofI l a).f1, (ofI l a).f2, (ofI l a).f3) := by
  unfold field_Of.f ofI
  rw [fBegin_eq r c l cu lo ins a hn h0 h1, Option.bind_some]
  rcases begin_range l a (by omega) with hb | ⟨hb0, hb1, _⟩
  · rw [hb, if_pos (by decide), if_pos (by decide)]
  · have hlt : ¬ beginI l a < 0 := by omega
    rw [if_neg hlt, if_pos hb0, if_pos hb1, if_neg hlt]
theorem fOpen_eq (r c : Int) (l : List S44) (cu : Int) (lo ins : Bool) (a : Int) (hn : l.length ≤ 16383) (h0 : 0 ≤ a) (h1 : a < l.length) : field_Open.f r c l cu lo ins a = some (openI l a) := by
  unfold field_Open.f openI
  rw [if_pos h0, if_pos h1, fOf_eq r c l cu lo ins a hn h0 h1, isF_rd]
  cases isF l a <;> simp
/-- a cell is right -/
def okC (x : S44) : Bool := if x.f0 = true then (x.f2 == 0 && (decide (0 ≤ x.f1.f2) && decide (x.f1.f2 ≤ 3))) else ((!x.f1.f0 && (!x.f1.f1 && (x.f1.f2 == 0 && (!x.f1.f3)))) && (x.f2 == 0 || (x.f2 == 28 || (x.f2 == 30 || (decide (64 ≤ x.f2) && decide (x.f2 ≤ 254))))))
theorem rCell_eq (x : S44) : shutterref10_Cell.f x.f0 x.f1.f0 x.f1.f1 x.f1.f2 x.f1.f3 x.f2 = some (okC x) := by
  unfold shutterref10_Cell.f okC
  by_cases h : x.f0 = true
  · rw [if_pos h, if_pos h]
    by_cases h2 : x.f2 = 0
    · rw [if_pos h2]
      by_cases h3 : x.f1.f2 ≥ 0
      · rw [if_pos h3]; simp [h2]; intro _; omega
      · rw [if_neg h3]; simp [h2]; intro _; omega
    · rw [if_neg h2]; simp [h2]
  · rw [if_neg h, if_neg h]
    cases hA : (!x.f1.f0 && (!x.f1.f1 && (x.f1.f2 == 0 && (!x.f1.f3))))
    · simp
    · simp only [if_true, Bool.true_and]
      unfold shutterref05_Char.f
      by_cases e0 : x.f2 = 0
      · simp [e0]
      · by_cases e1 : x.f2 = 28
        · simp [e1]
        · by_cases e2 : x.f2 = 30
          · simp [e2]
          · by_cases e3 : x.f2 ≥ 64
            · rw [if_neg e0, if_neg e1, if_neg e2, if_pos e3, beq_eq_false_iff_ne.2 e0, beq_eq_false_iff_ne.2 e1, beq_eq_false_iff_ne.2 e2, decide_eq_true (show 64 ≤ x.f2 from e3)]; rfl
            · rw [if_neg e0, if_neg e1, if_neg e2, if_neg e3, beq_eq_false_iff_ne.2 e0, beq_eq_false_iff_ne.2 e1, beq_eq_false_iff_ne.2 e2, decide_eq_false (show ¬ 64 ≤ x.f2 from e3)]; rfl

/-- a screen is right -/
structure RightI (r c : Int) (l : List S44) (cu : Int) : Prop where
  r1 : 1 ≤ r
  c1 : 1 ≤ c
  r2 : r ≤ 16383
  c2 : c ≤ 16383
  rc : r * c ≤ 16383
  len : (l.length : Int) = r * c
  cu0 : 0 ≤ cu
  cu1 : cu < l.length
  ok : ∀ x ∈ l, okC x = true

theorem rRight_loop (r c : Int) (l : List S44) (cu : Int) (lo ins : Bool) (hn : l.length ≤ 16383) : ∀ (d k i : Nat), d + i = l.length → d < k → shutterref10_Right.l0 k i r c l cu lo ins = some ((l.drop i).all okC)
  | 0, k, i, hd, hk => by
    obtain ⟨k, rfl⟩ : ∃ m, k = m + 1 := ⟨k - 1, by omega⟩
    rw [shutterref10_Right.l0, if_neg (by omega), List.drop_eq_nil_of_le (by omega)]; rfl
  | d + 1, k, i, hd, hk => by
    obtain ⟨k, rfl⟩ : ∃ m, k = m + 1 := ⟨k - 1, by omega⟩
    rw [shutterref10_Right.l0, if_pos (by omega), if_pos (by omega), rd_nat l i (by omega), rCell_eq, Option.bind_some, List.drop_eq_getElem_cons (by omega : i < l.length), List.all_cons]
    cases h : okC l[i]
    · simp
    · simp only [if_true, Bool.true_and]
      rw [w64 (by omega)]
      exact rRight_loop r c l cu lo ins hn d k (i + 1) (by omega) (by omega)
theorem prod_bd {r c : Int} (h1 : 1 ≤ r) (h2 : r ≤ 16383) (h3 : 1 ≤ c) (h4 : c ≤ 16383) : 1 ≤ r * c ∧ r * c ≤ 268402689 := by
  constructor
  · have := Int.mul_le_mul h1 h3 (by omega) (by omega); omega
  · have := Int.mul_le_mul h2 h4 (by omega) (by omega); omega
theorem rRight_eq (k : Nat) (r c : Int) (l : List S44) (cu : Int) (lo ins : Bool) (hk : l.length + 1 < k) (hn : l.length ≤ 16383) : ∃ b, shutterref10_Right.f k r c l cu lo ins = some b ∧ (b = true ↔ RightI r c l cu) := by
  obtain ⟨k, rfl⟩ : ∃ m, k = m + 1 := ⟨k - 1, by omega⟩
  unfold shutterref10_Right.f shutterref10_Sized.f
  have no : (¬ RightI r c l cu) → ∃ b, some false = some b ∧ (b = true ↔ RightI r c l cu) := fun h => ⟨false, rfl, by simp [h]⟩
  have jt : shutterref10_Right.j0 (k + 1) true r c l cu lo ins = some false := by rw [shutterref10_Right.j0, if_pos rfl]
  by_cases h1 : r ≥ 1
  · rw [if_pos h1]
    by_cases h2 : c ≥ 1
    · rw [if_pos h2]
      by_cases h3 : r ≤ 16383
      · rw [if_pos h3]
        by_cases h4 : c ≤ 16383
        · have hb := prod_bd h1 h3 h2 h4
          rw [if_pos h4, Option.bind_some, w64 (by omega)]
          by_cases h5 : r * c ≤ 16383
          · rw [if_pos (decide_eq_true h5)]
            by_cases h6 : (l.length : Int) = r * c
            · rw [if_pos h6]
              by_cases h7 : cu < 0
              · rw [if_pos h7, jt]; exact no (fun h => by have := h.cu0; omega)
              · rw [if_neg h7, shutterref10_Right.j0]
                by_cases h8 : cu ≥ l.length
                · rw [if_pos (decide_eq_true h8)]; exact no (fun h => by have := h.cu1; omega)
                · rw [if_neg (by simp; omega)]
                  have := rRight_loop r c l cu lo ins hn l.length k 0 rfl (by omega)
                  rw [show ((0 : Nat) : Int) = 0 from rfl] at this
                  rw [this, List.drop_zero]
                  refine ⟨_, rfl, ?_⟩
                  rw [List.all_eq_true]
                  exact ⟨fun h => ⟨h1, h2, h3, h4, h5, h6, by omega, by omega, h⟩, fun h => h.ok⟩
            · rw [if_neg h6, jt]; exact no (fun h => h6 h.len)
          · rw [if_neg (by simp; omega), jt]; exact no (fun h => h5 h.rc)
        · rw [if_neg h4, Option.bind_some, if_neg (by decide), jt]; exact no (fun h => h4 h.c2)
      · rw [if_neg h3, Option.bind_some, if_neg (by decide), jt]; exact no (fun h => h3 h.r2)
    · rw [if_neg h2, Option.bind_some, if_neg (by decide), jt]; exact no (fun h => h2 h.c1)
  · rw [if_neg h1, Option.bind_some, if_neg (by decide), jt]; exact no (fun h => h1 h.r1)
theorem rFew_eq (k : Nat) (r c : Int) (l : List S44) (cu : Int) (lo ins : Bool) (hk : 202 < k) : ∃ b, shutterref10_Few.f k r c l cu lo ins = some b ∧ (b = true ↔ l.length ≤ 200 ∧ RightI r c l cu) := by
  unfold shutterref10_Few.f
  by_cases h : (l.length : Int) ≤ 200
  · obtain ⟨b, hb, hi⟩ := rRight_eq k r c l cu lo ins (by omega) (by omega)
    rw [if_pos h, hb, Option.bind_some]
    exact ⟨b, rfl, hi.trans ⟨fun x => ⟨by omega, x⟩, fun x => x.2⟩⟩
  · rw [if_neg h]; exact ⟨false, rfl, by simp; intro h'; omega⟩
end Go.Proofs.YtgboplhcjhlabaaDoor.P
namespace Go.Proofs.YtgboplhcjhlabaaDoor.P
open Go.RowKit Go.Proofs.YtgboplhcjhlabaaDoorW.PrintWords Go.Proofs.YtgboplhcjhlabaaDoorW.PrintLast
set_option linter.unusedVariables false
set_option linter.unusedSimpArgs false

end Go.Proofs.YtgboplhcjhlabaaDoor.P
namespace Go.Proofs.YtgboplhcjhlabaaDoor.P
open Go.RowKit Go.Proofs.YtgboplhcjhlabaaDoorW.PrintWords Go.Proofs.YtgboplhcjhlabaaDoorW.PrintLast
set_option linter.unusedVariables false
set_option linter.unusedSimpArgs false

theorem cell_ext {x y : S44} (h0 : x.f0 = y.f0) (h1 : x.f1.f0 = y.f1.f0) (h2 : x.f1.f1 = y.f1.f1) (h3 : x.f1.f2 = y.f1.f2) (h4 : x.f1.f3 = y.f1.f3) (h5 : x.f2 = y.f2) : x = y := by
  obtain ⟨x0, ⟨x1, x2, x3, x4⟩, x5⟩ := x
  obtain ⟨y0, ⟨y1, y2, y3, y4⟩, y5⟩ := y
  simp only at h0 h1 h2 h3 h4 h5
  subst h0 h1 h2 h3 h4 h5
  rfl
theorem rSame_loop (r c : Int) (l : List S44) (cu : Int) (lo ins : Bool) (r' c' : Int) (l' : List S44) (cu' : Int) (lo' ins' : Bool) (hn : l.length ≤ 16383) (hl : l.length = l'.length) : ∀ (d k i : Nat), d + i = l.length → d < k → ∃ b, shutterref10_Same.l0 k i r c l cu lo ins r' c' l' cu' lo' ins' = some b ∧ (b = true ↔ l.drop i = l'.drop i)
  | 0, k, i, hd, hk => by
    obtain ⟨k, rfl⟩ : ∃ m, k = m + 1 := ⟨k - 1, by omega⟩
    rw [shutterref10_Same.l0, if_neg (by omega), List.drop_eq_nil_of_le (by omega), List.drop_eq_nil_of_le (by omega)]
    exact ⟨true, rfl, by simp⟩
  | d + 1, k, i, hd, hk => by
    obtain ⟨k, rfl⟩ : ∃ m, k = m + 1 := ⟨k - 1, by omega⟩
    rw [shutterref10_Same.l0, if_pos (by omega), if_pos (by omega), if_pos (by omega), rd_nat l i (by omega), rd_nat l' i (by omega), List.drop_eq_getElem_cons (by omega : i < l.length), List.drop_eq_getElem_cons (by omega : i < l'.length)]
    generalize l[i]'(by omega) = x
    generalize l'[i]'(by omega) = y
    by_cases h : (!(x.f0 == y.f0) || ((!(x.f1.f0 == y.f1.f0) || (!(x.f1.f1 == y.f1.f1) || (!(x.f1.f2 == y.f1.f2) || (!(x.f1.f3 == y.f1.f3))))) || (!(x.f2 == y.f2)))) = true
    · rw [if_pos h]
      refine ⟨false, rfl, ?_⟩
      simp only [Bool.false_eq_true, false_iff]
      intro e
      obtain rfl := (List.cons.inj e).1
      simp at h
    · rw [if_neg h, w64 (by omega)]
      simp only [Bool.or_eq_true, Bool.not_eq_true', beq_eq_false_iff_ne, not_or, Decidable.not_not, ne_eq] at h
      obtain ⟨h0, ⟨h1, h2, h3, h4⟩, h5⟩ := h
      obtain rfl := cell_ext h0 h1 h2 h3 h4 h5
      obtain ⟨b, hb, hi⟩ := rSame_loop r c l cu lo ins r' c' l' cu' lo' ins' hn hl d k (i + 1) (by omega) (by omega)
      refine ⟨b, hb, hi.trans ?_⟩
      constructor
      · intro e; rw [e]
      · intro e; exact (List.cons.inj e).2
theorem rSame_eq (k : Nat) (r c : Int) (l : List S44) (cu : Int) (lo ins : Bool) (r' c' : Int) (l' : List S44) (cu' : Int) (lo' ins' : Bool) (hn : l.length ≤ 16383) (hk : l.length + 1 < k) : ∃ b, shutterref10_Same.f k r c l cu lo ins r' c' l' cu' lo' ins' = some b ∧ (b = true ↔ r = r' ∧ c = c' ∧ l = l' ∧ cu = cu' ∧ lo = lo' ∧ ins = ins') := by
  obtain ⟨k, rfl⟩ : ∃ m, k = m + 1 := ⟨k - 1, by omega⟩
  unfold shutterref10_Same.f
  have jt : shutterref10_Same.j0 (k + 1) true r c l cu lo ins r' c' l' cu' lo' ins' = some false := by rw [shutterref10_Same.j0, if_pos rfl]
  have no : (¬ (r = r' ∧ c = c' ∧ l = l' ∧ cu = cu' ∧ lo = lo' ∧ ins = ins')) → ∃ b, some false = some b ∧ (b = true ↔ r = r' ∧ c = c' ∧ l = l' ∧ cu = cu' ∧ lo = lo' ∧ ins = ins') := fun h => ⟨false, rfl, by simp only [Bool.false_eq_true, false_iff]; exact h⟩
  by_cases h1 : r = r'
  · rw [if_pos h1]
    by_cases h2 : c = c'
    · rw [if_pos h2]
      by_cases h3 : cu = cu'
      · rw [if_pos h3]
        by_cases h4 : lo = lo'
        · rw [if_neg (by simp [h4])]
          by_cases h5 : ins = ins'
          · rw [if_neg (by simp [h5]), shutterref10_Same.j0]
            by_cases h6 : l.length = l'.length
            · rw [if_neg (by simp [h6])]
              obtain ⟨b, hb, hi⟩ := rSame_loop r c l cu lo ins r' c' l' cu' lo' ins' hn h6 l.length k 0 rfl (by omega)
              rw [show ((0 : Nat) : Int) = 0 from rfl] at hb
              rw [hb]
              refine ⟨b, rfl, hi.trans ?_⟩
              rw [List.drop_zero, List.drop_zero]
              exact ⟨fun e => ⟨h1, h2, e, h3, h4, h5⟩, fun e => e.2.2.1⟩
            · rw [if_pos (by simp; omega)]; exact no (fun h => h6 (by rw [h.2.2.1]))
          · rw [if_pos (by simpa using h5), jt]; exact no (fun h => h5 h.2.2.2.2.2)
        · rw [if_pos (by simpa using h4), jt]; exact no (fun h => h4 h.2.2.2.2.1)
      · rw [if_neg h3, jt]; exact no (fun h => h3 h.2.2.2.1)
    · rw [if_neg h2, jt]; exact no (fun h => h2 h.2.1)
  · rw [if_neg h1, jt]; exact no (fun h => h1 h.1)
theorem rSame_self (k : Nat) (r c : Int) (l : List S44) (cu : Int) (lo ins : Bool) (hn : l.length ≤ 16383) (hk : l.length + 1 < k) : shutterref10_Same.f k r c l cu lo ins r c l cu lo ins = some true := by
  obtain ⟨b, hb, hi⟩ := rSame_eq k r c l cu lo ins r c l cu lo ins hn hk
  rw [hb, hi.2 ⟨rfl, rfl, rfl, rfl, rfl, rfl⟩]
end Go.Proofs.YtgboplhcjhlabaaDoor.P
namespace Go.Proofs.YtgboplhcjhlabaaDoor.P
open Go.RowKit Go.Proofs.YtgboplhcjhlabaaDoorW.PrintWords Go.Proofs.YtgboplhcjhlabaaDoorW.PrintLast
set_option linter.unusedVariables false
set_option linter.unusedSimpArgs false

end Go.Proofs.YtgboplhcjhlabaaDoor.P
namespace Go.Proofs.YtgboplhcjhlabaaDoor.P
open Go.RowKit Go.Proofs.YtgboplhcjhlabaaDoorW.PrintWords Go.Proofs.YtgboplhcjhlabaaDoorW.PrintLast
set_option linter.unusedVariables false
set_option linter.unusedSimpArgs false
theorem emod_over (x : Int) (n : Nat) (h0 : (n : Int) ≤ x) (h1 : x < 2 * n) : x % (n : Int) = x - n := by
  have h : (x - n) % (n : Int) = x % (n : Int) := by rw [Int.sub_emod, Int.emod_self, Int.sub_zero, Int.emod_emod_of_dvd _ (Int.dvd_refl _)]
  rw [← h]; exact Int.emod_eq_of_lt (by omega) (by omega)
theorem emod_under (x : Int) (n : Nat) (h0 : -(n : Int) ≤ x) (h1 : x < 0) : x % (n : Int) = x + n := by
  have h : (x + n - n) % (n : Int) = (x + n) % (n : Int) := by rw [Int.sub_emod, Int.emod_self, Int.sub_zero, Int.emod_emod_of_dvd _ (Int.dvd_refl _)]
  rw [show x + n - n = x by omega] at h
  rw [h]; exact Int.emod_eq_of_lt (by omega) (by omega)
theorem way_val (n : Nat) (b : Int) (i : Nat) (b0 : 0 ≤ b) (b1 : b < n) (hi : i < n) : wayI n b 1 i = if b + 1 + i < n then b + 1 + i else b + 1 + i - n := by
  have e : wayI n b 1 i = (b + 1 + i) % (n : Int) := by unfold wayI sgnI; rw [if_neg (by omega), Int.one_mul]
  rw [e]
  by_cases h : b + 1 + i < n
  · rw [if_pos h]; exact Int.emod_eq_of_lt (by omega) h
  · rw [if_neg h]; exact emod_over _ _ (by omega) (by omega)
theorem back_val (n : Nat) (x : Int) (j : Nat) (x0 : 0 ≤ x) (x1 : x < n) (hj : j < n) : (x - j) % (n : Int) = if (j : Int) ≤ x then x - j else x - j + n := by
  by_cases h : (j : Int) ≤ x
  · rw [if_pos h]; exact Int.emod_eq_of_lt (by omega) (by omega)
  · rw [if_neg h]; exact emod_under _ _ (by omega) (by omega)

theorem takeW_way (p : Int → Bool) (g : Nat → Int) : ∀ c s, ∃ k, k ≤ c ∧ takeW p g c s = uptoI (fun j => g (s + j)) k ∧ (∀ i, i < k → p (g (s + i)) = false) ∧ (k = c ∨ p (g (s + k)) = true)
  | 0, s => ⟨0, Nat.le_refl _, rfl, fun i h => by omega, .inl rfl⟩
  | c + 1, s => by
    by_cases h : p (g s) = true
    · exact ⟨0, by omega, by rw [takeW, if_pos h]; rfl, fun i hi => by omega, .inr h⟩
    · obtain ⟨k, h1, h2, h3, h4⟩ := takeW_way p g c (s + 1)
      refine ⟨k + 1, by omega, ?_, fun i hi => ?_, ?_⟩
      · rw [takeW, if_neg h, h2, uptoI_front]; simp only [Nat.add_zero]; congr 1; congr 1; funext j; rw [show s + 1 + j = s + (j + 1) by omega]
      · rcases i with _ | i
        · simpa using h
        · have := h3 i (by omega); rw [show s + (i + 1) = s + 1 + i by omega]; exact this
      · rcases h4 with h4 | h4
        · left; omega
        · right; rw [show s + (k + 1) = s + 1 + k by omega]; exact h4

/-- the cells behind a cell with a field, up to the next one -/
theorem cells_parts (l : List S44) (b : Int) (b0 : 0 ≤ b) (b1 : b < l.length) (hF : isF l b = true) :
    ∃ k, k < l.length ∧ cellsI l b = uptoI (wayI l.length b 1) k ∧ (∀ i, i < k → isF l (wayI l.length b 1 i) = false) ∧ isF l (wayI l.length b 1 k) = true := by
  obtain ⟨k, h1, h2, h3, h4⟩ := takeW_way (isF l) (wayI l.length b 1) l.length 0
  simp only [Nat.zero_add] at h2 h3 h4
  have hlast : wayI l.length b 1 (l.length - 1) = b := by
    rw [way_val _ _ _ b0 b1 (by omega)]; split <;> omega
  have hk : k ≠ l.length := fun e => by
    have := h3 (l.length - 1) (by omega)
    rw [hlast, hF] at this; cases this
  refine ⟨k, by omega, ?_, h3, ?_⟩
  · unfold cellsI
    rw [begin_here l b b0 b1 hF, if_neg (by omega)]; exact h2
  · rcases h4 with h4 | h4
    · exact absurd h4 hk
    · exact h4
theorem begin_at (l : List S44) (x : Int) (j : Nat) (hj : j < l.length) (h : isF l ((x - j) % (l.length : Int)) = true) (h' : ∀ i : Nat, i < j → isF l ((x - i) % (l.length : Int)) = false) : beginI l x = (x - j) % (l.length : Int) :=
  findW_eq (isF l) (fun j => (x - j) % (l.length : Int)) l.length 0 j (by omega) (by omega) h (fun i _ hi => h' i hi)
theorem parts_in (l : List S44) (b : Int) (b0 : 0 ≤ b) (b1 : b < l.length) (hF : isF l b = true) (k : Nat) (hk : k < l.length) (hn : ∀ i, i < k → isF l (wayI l.length b 1 i) = false) (i : Nat) (hi : i < k) : beginI l (wayI l.length b 1 i) = b := by
  have v := way_val l.length b i b0 b1 (by omega)
  have w0 : 0 ≤ wayI l.length b 1 i ∧ wayI l.length b 1 i < l.length := by rw [v]; split <;> omega
  have e : (wayI l.length b 1 i - ((i + 1 : Nat) : Int)) % (l.length : Int) = b := by
    rw [back_val _ _ _ w0.1 w0.2 (by omega), v]; split <;> split <;> omega
  have := begin_at l (wayI l.length b 1 i) (i + 1) (by omega) (by rw [e]; exact hF) (fun j hj => by
    have e' : (wayI l.length b 1 i - (j : Int)) % (l.length : Int) = wayI l.length b 1 (i - j) := by
      rw [back_val _ _ _ w0.1 w0.2 (by omega), v, way_val _ _ _ b0 b1 (by omega)]; split <;> split <;> split <;> omega
    rw [e']; exact hn _ (by omega))
  rw [this, e]
theorem parts_all (l : List S44) (b : Int) (b0 : 0 ≤ b) (b1 : b < l.length) (k : Nat) (hk : k < l.length) (hK : isF l (wayI l.length b 1 k) = true) (x : Int) (x0 : 0 ≤ x) (x1 : x < l.length) (hx : beginI l x = b) (ne : x ≠ b) : ∃ i, i < k ∧ wayI l.length b 1 i = x := by
  rcases findW_cases (isF l) (fun j => (x - j) % (l.length : Int)) l.length 0 with ⟨h, _⟩ | ⟨j, _, hj, hp, hall, h⟩
  · have : beginI l x = -1 := h
    omega
  · have e : (x - (j : Int)) % (l.length : Int) = b := (show beginI l x = _ from h).symm.trans hx
    have v := back_val l.length x j x0 x1 (by omega)
    rw [e] at v
    have hj0 : j ≠ 0 := fun z => by
      subst z; rw [if_pos (by omega)] at v; omega
    have e2 : wayI l.length b 1 (j - 1) = x := by
      rw [way_val _ _ _ b0 b1 (by omega)]; revert v; split <;> split <;> omega
    refine ⟨j - 1, ?_, e2⟩
    rcases Nat.lt_or_ge (j - 1) k with hh | hh
    · exact hh
    · exfalso
      have e3 : (x - ((j - 1 - k : Nat) : Int)) % (l.length : Int) = wayI l.length b 1 k := by
        rw [back_val _ _ _ x0 x1 (by omega), way_val _ _ _ b0 b1 hk]; revert v; split <;> split <;> split <;> omega
      have h5 : isF l ((x - ((j - 1 - k : Nat) : Int)) % (l.length : Int)) = false := hall (j - 1 - k) (by omega) (by omega)
      rw [e3, hK] at h5; cases h5

theorem begin_never (l : List S44) (x : Int) (x0 : 0 ≤ x) (x1 : x < l.length) (h : beginI l x = -1) (y : Int) (y0 : 0 ≤ y) (y1 : y < l.length) : isF l y = false := by
  rcases findW_cases (isF l) (fun j => (x - j) % (l.length : Int)) l.length 0 with ⟨_, ha⟩ | ⟨j, _, hj, _, _, e⟩
  · by_cases hh : y ≤ x
    · have h5 : isF l ((x - ((x - y).toNat : Int)) % (l.length : Int)) = false := ha (x - y).toNat (by omega) (by omega)
      rw [back_val _ _ _ x0 x1 (by omega), if_pos (by omega), show x - ((x - y).toNat : Int) = y by omega] at h5
      exact h5
    · have h5 : isF l ((x - ((x - y + l.length).toNat : Int)) % (l.length : Int)) = false := ha (x - y + l.length).toNat (by omega) (by omega)
      rw [back_val _ _ _ x0 x1 (by omega), if_neg (by omega), show x - ((x - y + l.length).toNat : Int) + l.length = y by omega] at h5
      exact h5
  · have e2 : beginI l x = (x - (j : Int)) % (l.length : Int) := e
    have := Int.emod_nonneg (x - (j : Int)) (b := (l.length : Int)) (by omega)
    omega
theorem begin_only (l : List S44) (h : ∀ y : Int, 0 ≤ y → y < l.length → isF l y = false) (hp : 0 < l.length) (x : Int) : beginI l x = -1 :=
  findW_none (isF l) (fun j => (x - j) % (l.length : Int)) l.length 0 (fun i _ _ => h _ (Int.emod_nonneg _ (by omega)) (Int.emod_lt_of_pos _ (by omega)))
theorem cells_of_begin (l : List S44) (a b : Int) (hb : beginI l a = b) (b0 : 0 ≤ b) (b1 : b < l.length) (hF : isF l b = true) : cellsI l a = cellsI l b := by
  unfold cellsI; rw [hb, begin_here l b b0 b1 hF]
/-- the cells of an open cell's field: a list without a cell twice, all in the field, the cell itself among them -/
theorem cells_all (l : List S44) (a : Int) (a0 : 0 ≤ a) (a1 : a < l.length) (ha : isF l a = false) :
    a ∈ cellsI l a ∧ (cellsI l a).Nodup ∧ ∀ x ∈ cellsI l a, 0 ≤ x ∧ x < l.length ∧ isF l x = false ∧ beginI l x = beginI l a := by
  have hp : 0 < l.length := by omega
  rcases begin_range l a hp with hb | ⟨b0, b1, hF⟩
  · have hn := begin_never l a a0 a1 hb
    have hc : cellsI l a = uptoI (fun j => (j : Int)) l.length := by unfold cellsI; rw [hb, if_pos (by decide)]
    rw [hc, hb]
    unfold uptoI
    refine ⟨List.mem_map.2 ⟨a.toNat, List.mem_range.2 (by omega), by omega⟩, ?_, fun x hx => ?_⟩
    · exact List.Pairwise.map _ (fun x y (h : x ≠ y) => by omega) List.nodup_range
    · obtain ⟨j, hj, rfl⟩ := List.mem_map.1 hx
      have := List.mem_range.1 hj
      exact ⟨by omega, by omega, hn _ (by omega) (by omega), begin_only l hn hp _⟩
  · obtain ⟨k, hk, hc, hn, hK⟩ := cells_parts l (beginI l a) b0 b1 hF
    rw [cells_of_begin l a _ rfl b0 b1 hF, hc]
    have hne : a ≠ beginI l a := fun e => by rw [← e, ha] at hF; cases hF
    obtain ⟨i, hi, e⟩ := parts_all l (beginI l a) b0 b1 k hk hK a a0 a1 rfl hne
    unfold uptoI
    refine ⟨List.mem_map.2 ⟨i, List.mem_range.2 hi, e⟩, ?_, fun x hx => ?_⟩
    · rw [List.Nodup, List.pairwise_map]
      refine List.Pairwise.imp_of_mem ?_ List.nodup_range
      intro x y hx hy hxy he
      have hx' := List.mem_range.1 hx
      have hy' := List.mem_range.1 hy
      rw [way_val _ _ _ b0 b1 (by omega), way_val _ _ _ b0 b1 (by omega)] at he
      revert he; split <;> split <;> omega
    · obtain ⟨j, hj, rfl⟩ := List.mem_map.1 hx
      have hj' := List.mem_range.1 hj
      exact ⟨wayI_nonneg hp _ _ _, wayI_lt hp _ _ _, hn j hj', parts_in l _ b0 b1 hF k hk hn j hj'⟩
end Go.Proofs.YtgboplhcjhlabaaDoor.P
namespace Go.Proofs.YtgboplhcjhlabaaDoor.P
open Go.RowKit Go.Proofs.YtgboplhcjhlabaaDoorW.PrintWords Go.Proofs.YtgboplhcjhlabaaDoorW.PrintLast
set_option linter.unusedVariables false
set_option linter.unusedSimpArgs false
theorem fCopy_eq (r c : Int) (l : List S44) (cu : Int) (lo ins : Bool) (hn : l.length ≤ 16383) : grid_Copy.f r c l cu lo ins = some (r, c, l, cu, lo, ins) := by
  unfold grid_Copy.f slices_Clone_shutter_api_Cell_shutter_api_Cell.f
  rw [if_pos hn]; rfl
/-- the line of a cell -/
def rowI (l : List S44) (a : Int) : List Int := if openI l a = true then (cellsI l a).dropWhile (fun x => x != a) else []
theorem open_isF {l : List S44} {a : Int} (h : openI l a = true) : isF l a = false := by
  unfold openI at h; cases hf : isF l a
  · rfl
  · rw [hf] at h; cases h
theorem rd_nat_int (L : List Int) (k : Nat) (hk : k < L.length) : rd L (k : Int) = L[k] := by unfold rd; simp [hk]
theorem takeW_len (p : Int → Bool) (g : Nat → Int) : ∀ c s, (takeW p g c s).length ≤ c
  | 0, s => Nat.le_refl _
  | c + 1, s => by
    unfold takeW; split
    · simp
    · have := takeW_len p g c (s + 1); rw [List.length_cons]; omega
theorem cells_len (l : List S44) (a : Int) : (cellsI l a).length ≤ l.length := by
  unfold cellsI; split
  · rw [uptoI_length]; exact Nat.le_refl _
  · exact takeW_len _ _ _ _
theorem row_len (l : List S44) (a : Int) : (rowI l a).length ≤ l.length := by
  unfold rowI; split
  · exact Nat.le_trans (List.Sublist.length_le (List.dropWhile_sublist _)) (cells_len l a)
  · exact Nat.zero_le _
/-- where a cell stands in a list that has it: what lies behind it is the rest from it on -/
theorem index_loop (L : List Int) (a : Int) (hL : L.length ≤ 100000) : ∀ (d k i : Nat), d + i = L.length → d < k → a ∈ L.drop i → ∃ j : Nat, i ≤ j ∧ j < L.length ∧ slices_Index_int_int.l0 k L a L.length i = some (j : Int) ∧ L.drop j = (L.drop i).dropWhile (fun x => x != a)
  | 0, k, i, hd, hk, hm => by rw [List.drop_eq_nil_of_le (by omega)] at hm; cases hm
  | d + 1, k, i, hd, hk, hm => by
    obtain ⟨k, rfl⟩ : ∃ m, k = m + 1 := ⟨k - 1, by omega⟩
    have hi : i < L.length := by omega
    rw [slices_Index_int_int.l0, if_pos (by omega), if_pos (by omega), if_pos (by omega), rd_nat_int L i hi]
    rw [List.drop_eq_getElem_cons hi] at hm ⊢
    by_cases h : a = L[i]
    · rw [if_pos h]
      refine ⟨i, Nat.le_refl _, hi, rfl, ?_⟩
      rw [List.dropWhile_cons, if_neg (by simp [h]), List.drop_eq_getElem_cons hi]
    · rw [if_neg h, w64 (by omega)]
      have hm' : a ∈ L.drop (i + 1) := by
        rcases List.mem_cons.1 hm with e | e
        · exact absurd e h
        · exact e
      obtain ⟨j, h1, h2, h3, h4⟩ := index_loop L a hL d k (i + 1) (by omega) (by omega) hm'
      refine ⟨j, by omega, h2, h3, ?_⟩
      rw [h4, List.dropWhile_cons, if_pos (by simp; exact fun e => h e.symm)]
theorem fLine_eq (k : Nat) (r c : Int) (l : List S44) (cu : Int) (lo ins : Bool) (a : Int) (hn : l.length ≤ 16383) (h0 : 0 ≤ a) (h1 : a < l.length) (hk : l.length < k) : edit_Line.f k r c l cu lo ins a = some (rowI l a) := by
  unfold edit_Line.f rowI
  rw [fOpen_eq r c l cu lo ins a hn h0 h1, Option.bind_some]
  by_cases ho : openI l a = true
  · rw [if_pos ho, if_pos ho, fCells_eq r c l cu lo ins a hn h0 h1, Option.bind_some]
    have hc := cells_all l a h0 h1 (open_isF ho)
    have hl := cells_len l a
    obtain ⟨j, _, hj, he, hd⟩ := index_loop (cellsI l a) a (by omega) (cellsI l a).length k 0 (by omega) (by omega) (by rw [List.drop_zero]; exact hc.1)
    unfold slices_Index_int_int.f
    rw [show ((0 : Nat) : Int) = 0 from rfl] at he
    rw [he, Option.bind_some, if_pos (by omega), if_pos (by omega), Int.toNat_natCast, hd, List.drop_zero]
  · rw [if_neg ho, if_neg ho]
/-- a cell, modified -/
def modC (x : S44) : S44 := ⟨x.f0, ⟨x.f1.f0, x.f1.f1, x.f1.f2, true⟩, x.f2⟩
/-- a cell's field, modified -/
def modI (l : List S44) (a : Int) : List S44 := if 0 ≤ beginI l a then l.set (beginI l a).toNat (modC (rd_T44 l (beginI l a))) else l
theorem modI_length (l : List S44) (a : Int) : (modI l a).length = l.length := by unfold modI; split <;> simp
theorem fModify_eq (r c : Int) (l : List S44) (cu : Int) (lo ins : Bool) (a : Int) (hn : l.length ≤ 16383) (h0 : 0 ≤ a) (h1 : a < l.length) : edit_Modify.f r c l cu lo ins a = some (r, c, modI l a, cu, lo, ins) := by
  unfold edit_Modify.f modI
  rw [fCopy_eq r c l cu lo ins hn, Option.bind_some]
  simp only
  rw [fBegin_eq r c l cu lo ins a hn h0 h1, Option.bind_some]
  rcases begin_range l a (by omega) with hb | ⟨b0, b1, _⟩
  · rw [hb, if_neg (by decide), if_neg (by decide)]
  · rw [if_pos b0, if_pos b0, if_pos b1, if_pos b0]; rfl
theorem fDeny_eq (r c : Int) (l : List S44) (cu : Int) (lo ins : Bool) (n : Int) (x : List S184) (hn : l.length ≤ 16383) : edit_Deny.f r c l cu lo ins (some (Er.num n)) x = some (r, c, l, cu, true, ins, some Er.spot, [⟨cu, n⟩]) := by
  unfold edit_Deny.f; rw [if_pos hn]
end Go.Proofs.YtgboplhcjhlabaaDoor.P
namespace Go.Proofs.YtgboplhcjhlabaaDoor.P
open Go.RowKit Go.Proofs.YtgboplhcjhlabaaDoorW.PrintWords Go.Proofs.YtgboplhcjhlabaaDoorW.PrintLast
set_option linter.unusedVariables false
set_option linter.unusedSimpArgs false
theorem pos_ {α : Type} {P : Prop} [Decidable P] {x y z : α} (h : P) (e : x = z) : (if P then x else y) = z := by rw [if_pos h]; exact e
theorem neg_ {α : Type} {P : Prop} [Decidable P] {x y z : α} (h : ¬ P) (e : y = z) : (if P then x else y) = z := by rw [if_neg h]; exact e
theorem rd_set (l : List S44) (x y : Int) (v : S44) (x0 : 0 ≤ x) (x1 : x < l.length) (y0 : 0 ≤ y) : rd_T44 (l.set (x : Int).toNat v) y = if x = y then v else rd_T44 l y := by
  obtain ⟨m, rfl⟩ := Int.eq_ofNat_of_zero_le x0
  obtain ⟨n, rfl⟩ := Int.eq_ofNat_of_zero_le y0
  simp only [rd_T44, Int.toNat_natCast, List.getD_eq_getElem?_getD, List.getElem?_set]
  by_cases h : m = n
  · subst h; rw [if_pos rfl, if_pos rfl, if_pos (by omega)]; rfl
  · rw [if_neg h, if_neg (by omega)]
theorem row_open {l : List S44} {a : Int} (a0 : 0 ≤ a) (a1 : a < l.length) (ho : openI l a = true) :
    (rowI l a).Nodup ∧ (∀ x ∈ rowI l a, 0 ≤ x ∧ x < l.length ∧ isF l x = false ∧ beginI l x = beginI l a) ∧ 0 < (rowI l a).length ∧ rd (rowI l a) 0 = a := by
  obtain ⟨h1, h2, h3⟩ := cells_all l a a0 a1 (open_isF ho)
  have e : rowI l a = (cellsI l a).dropWhile (fun x => x != a) := by unfold rowI; rw [if_pos ho]
  have hsub : (rowI l a).Sublist (cellsI l a) := by rw [e]; exact List.dropWhile_sublist _
  have hhead : ∀ L : List Int, a ∈ L → ∃ t, L.dropWhile (fun x => x != a) = a :: t := by
    intro L
    induction L with
    | nil => intro h; cases h
    | cons x t ih =>
      intro h
      rw [List.dropWhile_cons]
      by_cases hx : x = a
      · subst hx; exact ⟨t, by simp⟩
      · rw [if_pos (by simpa using hx)]
        rcases List.mem_cons.1 h with h | h
        · exact absurd h.symm hx
        · exact ih h
  obtain ⟨t, ht⟩ := hhead _ h1
  refine ⟨h2.sublist hsub, fun x hx => h3 x (hsub.subset hx), ?_, ?_⟩
  · rw [e, ht]; simp
  · rw [e, ht]; rfl
theorem rd_mem (L : List Int) (i : Nat) (hi : i < L.length) : rd L (i : Int) ∈ L := by rw [rd_nat_int L i hi]; exact List.getElem_mem hi
end Go.Proofs.YtgboplhcjhlabaaDoor.P
namespace Go.Proofs.YtgboplhcjhlabaaDoor.P
open Go.RowKit Go.Proofs.YtgboplhcjhlabaaDoorW.PrintWords Go.Proofs.YtgboplhcjhlabaaDoorW.PrintLast
set_option linter.unusedVariables false
set_option linter.unusedSimpArgs false
def charC (c : S44) (v : Int) : S44 := ⟨c.f0, ⟨c.f1.f0, c.f1.f1, c.f1.f2, c.f1.f3⟩, v⟩
def sweep (p : Int → Bool) (g : S44 → S44) : Nat → Int → List S44 → List S44
  | 0, _, a => a
  | d + 1, x, a => sweep p g d (x + 1) (if p x = true then a.set (x : Int).toNat (g (rd_T44 a x)) else a)
theorem sweep_length (p : Int → Bool) (g : S44 → S44) : ∀ d x a, (sweep p g d x a).length = a.length
  | 0, x, a => rfl
  | d + 1, x, a => by
    unfold sweep; rw [sweep_length p g d]; split
    · rw [List.length_set]
    · rfl
/-- all input erased -/
def allI (l : List S44) : List S44 := sweep (openI l) (fun c => charC c 0) l.length 0 (l.map (resetC false))
theorem allI_length (l : List S44) : (allI l).length = l.length := by unfold allI; rw [sweep_length, List.length_map]
/-- the first open cell -/
def homeI (l : List S44) : Int := mx 0 (nextI l ((l.length : Int) - 1))
theorem fall_loop (r c : Int) (l : List S44) (cu : Int) (lo ins : Bool) (hn : l.length ≤ 16383) (hp : 0 < l.length) (r' c' cu' : Int) (lo' ins' : Bool) : ∀ (d K : Nat) (x : Int) (a : List S44), 0 ≤ x → x + d = l.length → a.length = l.length → d < K →
    wipe_all.l0 K (l.length : Int) x r c l cu lo ins r' c' a cu' lo' ins' = some (r', c', sweep (openI l) (fun c => charC c 0) d x a, homeI l, lo', ins')
  | 0, K, x, a, x0, hx, ha, hk => by
    obtain ⟨K, rfl⟩ : ∃ m, K = m + 1 := ⟨K - 1, by omega⟩
    rw [wipe_all.l0, if_neg (by omega)]
    unfold grid_Size.f
    rw [Option.bind_some, w64 (by omega), fNext_eq r c l cu lo ins _ hn (by omega) (by omega), Option.bind_some]; rfl
  | d + 1, K, x, a, x0, hx, ha, hk => by
    obtain ⟨K, rfl⟩ : ∃ m, K = m + 1 := ⟨K - 1, by omega⟩
    rw [wipe_all.l0, if_pos (by omega), fOpen_eq r c l cu lo ins x hn x0 (by omega), Option.bind_some, w64 (by omega)]
    unfold sweep
    by_cases h : openI l x = true
    · rw [if_pos h, if_pos x0, if_pos (by omega), if_pos h]
      exact fall_loop r c l cu lo ins hn hp r' c' cu' lo' ins' d K (x + 1) _ (by omega) (by omega) (by rw [List.length_set]; exact ha) (by omega)
    · rw [if_neg h, if_neg h]
      exact fall_loop r c l cu lo ins hn hp r' c' cu' lo' ins' d K (x + 1) a (by omega) (by omega) ha (by omega)
theorem fall_eq (K : Nat) (r c : Int) (l : List S44) (cu : Int) (lo ins : Bool) (hn : l.length ≤ 16383) (hp : 0 < l.length) (hk : l.length < K) : wipe_all.f K r c l cu lo ins = some (r, c, allI l, homeI l, lo, ins) := by
  unfold wipe_all.f host_Reset.f
  rw [if_pos hn, Option.bind_some]
  exact fall_loop r c l cu lo ins hn hp r c cu lo ins l.length K 0 _ (by omega) (by omega) (by rw [List.length_map]) hk
def wipeV (kind : Int) (l : List S44) (row : List Int) (x : Int) : Int := if kind = 12 ∧ x + 1 < row.length then (rd_T44 l (rd row (x + 1))).f2 else 0
def wipeL (v : Int → Int) (row : List Int) : Nat → Int → List S44 → List S44
  | 0, _, a => a
  | d + 1, x, a => wipeL v row d (x + 1) (a.set (rd row x).toNat (charC (rd_T44 a (rd row x)) (v x)))
theorem fwl_loop (row : List Int) (hrow : row.length ≤ 16383) (r c : Int) (l : List S44) (cu : Int) (lo ins : Bool) (hr : ∀ x ∈ row, 0 ≤ x ∧ x < l.length) (kind : Int) (r' c' cu' : Int) (lo' ins' : Bool) : ∀ (d K x : Nat) (a : List S44), x + d = row.length → a.length = l.length → d < K →
    wipe_Do.l0 K kind row row (row.length : Int) (x : Int) r c l cu lo ins r' c' a cu' lo' ins' = some (r', c', wipeL (wipeV kind l row) row d (x : Int) a, cu', lo', ins', none, [])
  | 0, K, x, a, hx, ha, hk => by
    obtain ⟨K, rfl⟩ : ∃ m, K = m + 1 := ⟨K - 1, by omega⟩
    rw [wipe_Do.l0, if_neg (by omega)]; rfl
  | d + 1, K, x, a, hx, ha, hk => by
    obtain ⟨K, rfl⟩ : ∃ m, K = m + 1 := ⟨K - 1, by omega⟩
    have hm := hr _ (rd_mem row x (by omega))
    have ex : wrap64 ((x : Int) + 1) = ((x + 1 : Nat) : Int) := by rw [w64 (by omega)]; omega
    have ex2 : ((x : Int) + 1) = ((x + 1 : Nat) : Int) := by omega
    rw [wipe_Do.l0, if_pos (by omega), if_pos (by omega), if_pos (by omega), if_pos hm.1, if_pos (by omega), Option.bind_some, ex]
    unfold wipeL
    rw [ex2]
    by_cases h12 : kind = 12
    · rw [if_pos h12]
      by_cases hlt : ((x + 1 : Nat) : Int) < (row.length : Int)
      · have hm1 := hr _ (rd_mem row (x + 1) (by omega))
        rw [if_pos hlt, if_pos (by omega), if_pos hm1.1, if_pos (by omega), rd_set a _ _ _ hm.1 (by omega) hm.1, if_pos rfl, List.set_set]
        rw [show wipeV kind l row (x : Int) = (rd_T44 l (rd row ((x + 1 : Nat) : Int))).f2 by unfold wipeV; rw [if_pos ⟨h12, by omega⟩, ex2]]
        exact fwl_loop row hrow r c l cu lo ins hr kind r' c' cu' lo' ins' d K (x + 1) _ (by omega) (by rw [List.length_set]; exact ha) (by omega)
      · rw [if_neg hlt, show wipeV kind l row (x : Int) = 0 by unfold wipeV; rw [if_neg (by omega)]]
        exact fwl_loop row hrow r c l cu lo ins hr kind r' c' cu' lo' ins' d K (x + 1) _ (by omega) (by rw [List.length_set]; exact ha) (by omega)
    · rw [if_neg h12, show wipeV kind l row (x : Int) = 0 by unfold wipeV; rw [if_neg (fun h => h12 h.1)]]
      exact fwl_loop row hrow r c l cu lo ins hr kind r' c' cu' lo' ins' d K (x + 1) _ (by omega) (by rw [List.length_set]; exact ha) (by omega)
/-- why a key that wipes is refused; 0: it isn't -/
def wipeW (l : List S44) (cu : Int) (lo : Bool) (kind : Int) : Int := if kind < 12 ∨ kind > 14 then 1 else if lo = true then 7 else if kind = 14 then 0 else if openI l cu = true then 0 else 8
/-- the cells behind a key that wipes -/
def wipeI (l : List S44) (cu kind : Int) : List S44 := if kind = 14 then allI l else wipeL (wipeV kind l (rowI l cu)) (rowI l cu) (rowI l cu).length 0 (modI l cu)
def wipeF (r c : Int) (l : List S44) (cu : Int) (lo ins : Bool) (kind : Int) : Int × Int × List S44 × Int × Bool × Bool × Option Er × List S184 :=
  if wipeW l cu lo kind = 0 then (r, c, wipeI l cu kind, if kind = 14 then homeI l else cu, lo, ins, none, []) else if wipeW l cu lo kind = 8 then (r, c, l, cu, true, ins, some Er.spot, [⟨cu, 8⟩]) else (r, c, l, cu, lo, ins, some (Er.num (wipeW l cu lo kind)), [])
theorem fwipes_eq (kind : Int) : wipe_Wipes.f kind = some (decide (12 ≤ kind ∧ kind ≤ 14)) := by
  unfold wipe_Wipes.f
  by_cases h : kind ≥ 12
  · rw [if_pos h]; congr 1
    by_cases h2 : kind ≤ 14
    · rw [decide_eq_true h2, decide_eq_true ⟨h, h2⟩]
    · rw [decide_eq_false h2, decide_eq_false (fun h' => h2 h'.2)]
  · rw [if_neg h, decide_eq_false (fun h' => h h'.1)]
theorem fwipe_eq (K : Nat) (r c : Int) (l : List S44) (cu : Int) (lo ins : Bool) (kind : Int) (hn : l.length ≤ 16383) (c0 : 0 ≤ cu) (c1 : cu < l.length) (hk : l.length < K) : wipe_Do.f K r c l cu lo ins kind = some (wipeF r c l cu lo ins kind) := by
  unfold wipe_Do.f wipeF wipeW
  rw [fwipes_eq, Option.bind_some]
  by_cases h1 : kind < 12 ∨ kind > 14
  · rw [decide_eq_false (by omega), if_neg (by decide)]
    simp only [if_pos h1]; rfl
  · rw [decide_eq_true (by omega), if_pos rfl]
    simp only [if_neg h1]
    cases lo with
    | true => simp only [if_true]; rfl
    | false =>
      simp only [Bool.false_eq_true, if_false]
      by_cases h14 : kind = 14
      · simp only [if_pos h14]
        rw [fall_eq K r c l cu false ins hn (by omega) hk, Option.bind_some]
        unfold wipeI; rw [if_pos h14]; rfl
      · simp only [if_neg h14]
        rw [fOpen_eq r c l cu false ins cu hn c0 c1, Option.bind_some]
        by_cases ho : openI l cu = true
        · simp only [if_pos ho]
          rw [fLine_eq K r c l cu false ins cu hn c0 c1 hk, Option.bind_some, fModify_eq r c l cu false ins cu hn c0 c1, Option.bind_some]
          obtain ⟨_, hr, _, _⟩ := row_open c0 c1 ho
          have hl := row_len l cu
          have := fwl_loop (rowI l cu) (by omega) r c l cu false ins (fun x hx => ⟨(hr x hx).1, (hr x hx).2.1⟩) kind r c cu false ins (rowI l cu).length K 0 (modI l cu) (by omega) (modI_length l cu) (by omega)
          rw [show ((0 : Nat) : Int) = 0 from rfl] at this
          unfold wipeI; rw [if_neg h14]
          exact this
        · simp only [if_neg ho]
          rw [fDeny_eq r c l cu false ins 8 [] hn, Option.bind_some]; rfl
theorem wipeF_ok {r c : Int} {l : List S44} {cu : Int} {lo ins : Bool} {kind : Int} (h : wipeW l cu lo kind = 0) : wipeF r c l cu lo ins kind = (r, c, wipeI l cu kind, if kind = 14 then homeI l else cu, lo, ins, none, []) := by unfold wipeF; rw [if_pos h]
end Go.Proofs.YtgboplhcjhlabaaDoor.P
namespace Go.Proofs.YtgboplhcjhlabaaDoor.P
open Go.RowKit Go.Proofs.YtgboplhcjhlabaaDoorW.PrintWords Go.Proofs.YtgboplhcjhlabaaDoorW.PrintLast
set_option linter.unusedVariables false
set_option linter.unusedSimpArgs false
theorem fclean_loop (r c : Int) (l : List S44) (cu : Int) (lo ins : Bool) (hn : l.length ≤ 16383) (hp : 0 < l.length) (r' c' cu' : Int) (lo' ins' : Bool) : ∀ (d K : Nat) (x : Int) (a : List S44), 0 ≤ x → x + d = l.length → a.length = l.length → d < K →
    host_clean.l0 K (l.length : Int) x r c l cu lo ins r' c' a cu' lo' ins' = some (r', c', sweep (openI l) (fun c => charC c 0) d x a, homeI l, lo', ins')
  | 0, K, x, a, x0, hx, ha, hk => by
    obtain ⟨K, rfl⟩ : ∃ m, K = m + 1 := ⟨K - 1, by omega⟩
    rw [host_clean.l0, if_neg (by omega), w64 (by omega), fNext_eq r c l cu lo ins _ hn (by omega) (by omega), Option.bind_some]; rfl
  | d + 1, K, x, a, x0, hx, ha, hk => by
    obtain ⟨K, rfl⟩ : ∃ m, K = m + 1 := ⟨K - 1, by omega⟩
    rw [host_clean.l0, if_pos (by omega), fOpen_eq r c l cu lo ins x hn x0 (by omega), Option.bind_some, w64 (by omega)]
    unfold sweep
    by_cases h : openI l x = true
    · rw [if_pos h, if_pos x0, if_pos (by omega), if_pos h]
      exact fclean_loop r c l cu lo ins hn hp r' c' cu' lo' ins' d K (x + 1) _ (by omega) (by omega) (by rw [List.length_set]; exact ha) (by omega)
    · rw [if_neg h, if_neg h]
      exact fclean_loop r c l cu lo ins hn hp r' c' cu' lo' ins' d K (x + 1) a (by omega) (by omega) ha (by omega)
theorem fclean_eq (K : Nat) (r c : Int) (l : List S44) (cu : Int) (lo ins : Bool) (hn : l.length ≤ 16383) (hp : 0 < l.length) (hk : l.length < K) : host_clean.f K r c l cu lo ins = some (r, c, allI l, homeI l, lo, ins) := by
  unfold host_clean.f host_Reset.f
  rw [if_pos hn, Option.bind_some]
  exact fclean_loop r c l cu lo ins hn hp r c cu lo ins l.length K 0 _ (by omega) (by omega) (by rw [List.length_map]) hk
theorem write_clean (K : Nat) (size : Int) (hk : 3 < K) : stream_Write.f K 111 false false false [] size = some ([111], none, []) := by
  obtain ⟨K, rfl⟩ : ∃ m, K = m + 4 := ⟨K - 4, by omega⟩
  unfold stream_Write.f
  rw [show stream_known.f (K + 4) 111 = some true from rfl, Option.bind_some, if_pos rfl, Option.bind_some, show stream_Writes.f 111 = some false from rfl, Option.bind_some]
  rfl
/-- the host's Clean -/
theorem hclean_eq (K : Nat) (r c : Int) (l : List S44) (cu : Int) (lo ins : Bool) (hn : l.length ≤ 16383) (hp : 0 < l.length) (hk : l.length + 3 < K) : host_Do.f K r c l cu lo ins 111 false false false [] = some (r, c, allI l, homeI l, false, false, none, []) := by
  unfold host_Do.f
  rw [show grid_Size.f r c l cu lo ins = some (l.length : Int) from rfl, Option.bind_some, write_clean K _ (by omega), Option.bind_some]
  refine pos_ rfl ?_
  rw [fCopy_eq r c l cu lo ins hn, Option.bind_some]
  refine neg_ (by decide) (neg_ (by decide) (pos_ rfl ?_))
  show ((host_clean.f K r c l cu lo ins).bind _) = _
  rw [fclean_eq K r c l cu lo ins hn hp (by omega), Option.bind_some]
  rfl
end Go.Proofs.YtgboplhcjhlabaaDoor.P
namespace Go.Proofs.YtgboplhcjhlabaaDoor.P
open Go.RowKit Go.Proofs.YtgboplhcjhlabaaDoorW.PrintWords Go.Proofs.YtgboplhcjhlabaaDoorW.PrintLast
set_option linter.unusedVariables false
set_option linter.unusedSimpArgs false
theorem awake16_30 : shutterlaw16_awake.f 30 = some true := by decide +kernel
theorem awake16_eq (k : Nat) (hk : 30 ≤ k) : shutterlaw16_awake.f k = some true := by
  obtain ⟨d, rfl⟩ : ∃ d, k = 30 + d := ⟨k - 30, by omega⟩
  clear hk
  induction d with
  | zero => exact awake16_30
  | succ d ih => exact shutterlaw16_awake.mono _ _ ih
end Go.Proofs.YtgboplhcjhlabaaDoor.P
namespace Go.Proofs.YtgboplhcjhlabaaDoor.P
open Go.RowKit Go.Proofs.YtgboplhcjhlabaaDoorW.PrintWords Go.Proofs.YtgboplhcjhlabaaDoorW.PrintLast
set_option linter.unusedVariables false
set_option linter.unusedSimpArgs false
theorem WipeHost_pure (r c : Int) (l : List S44) (cu : Int) (lo ins : Bool) (wl : ∀ x ∈ l, wfC x) : shutterlaw16_WipeHost.f 1000 r c l cu lo ins = some true := by
  unfold shutterlaw16_WipeHost.f
  rw [awake16_eq 1000 (by omega), Option.bind_some, if_pos rfl]
  obtain ⟨t, ht, hi⟩ := rFew_eq 1000 r c l cu lo ins (by omega)
  rw [ht, Option.bind_some]
  cases t with
  | false => rw [if_neg (by decide), Option.bind_some]
  | true =>
    obtain ⟨hl, hr⟩ := hi.1 rfl
    have c0 := hr.cu0
    have c1 := hr.cu1
    have ho := allI_length l
    rw [if_pos rfl, fwipe_eq 1000 r c l cu false ins 14 (by omega) c0 c1 (by omega), Option.bind_some, wipeF_ok (show wipeW l cu false 14 = 0 from rfl), hclean_eq 1000 r c l cu false ins (by omega) (by omega) (by omega), Option.bind_some]
    refine pos_ rfl (pos_ rfl ?_)
    rw [show wipeI l cu 14 = allI l by unfold wipeI; rw [if_pos rfl]]
    show ((shutterref10_Same.f 1000 r c (allI l) (homeI l) false ins r c (allI l) (homeI l) false ins).bind _) = _
    rw [rSame_self 1000 r c (allI l) _ false ins (by omega) (by omega), Option.bind_some]
end Go.Proofs.YtgboplhcjhlabaaDoor.P
