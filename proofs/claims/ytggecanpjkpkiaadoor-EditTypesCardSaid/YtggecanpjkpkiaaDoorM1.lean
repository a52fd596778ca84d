/-
What a right screen is, and what field's functions tell of it, over plain lists. No Go in it.
-/
import Derived.Test.YtggecanpjkpkiaaDoorPx3
import Derived.Test.YtggecanpjkpkiaaDoorPx4
import Derived.Test.YtggecanpjkpkiaaDoorPx5
import Derived.Test.YtggecanpjkpkiaaDoorPx7
namespace Go.Proofs.YtggecanpjkpkiaaDoor.P
open Go.RowKit Go.Proofs.YtggecanpjkpkiaaDoorW.PrintWords Go.Proofs.YtggecanpjkpkiaaDoorW.PrintLast
set_option linter.unusedVariables false
set_option linter.unusedSimpArgs false

theorem w64 {x : Int} (h : -9223372036854775808 ≤ x ∧ x ≤ 9223372036854775807) : wrap64 x = x := by unfold wrap64; omega

theorem isF_rd (l : List S35) (i : Int) : (rd_T35 l i).f0 = isF l i := rfl
theorem sub_sub_emod (a i : Int) (n : Nat) (i0 : 0 ≤ i) (i1 : i < n) : (a - (a - i) % (n : Int)) % (n : Int) = i := by
  rw [Int.sub_emod, Int.emod_emod_of_dvd _ (Int.dvd_refl _), ← Int.sub_emod, show a - (a - i) = i by omega]
  exact Int.emod_eq_of_lt i0 i1

theorem fBegin_eq (r c : Int) (l : List S35) (cu : Int) (lo ins : Bool) (a : Int) (hn : l.length ≤ 16383) (h0 : 0 ≤ a) (h1 : a < l.length) : field_Begin.f r c l cu lo ins a = some (beginI l a) := by
  unfold field_Begin.f; rw [if_pos hn, if_pos h0, if_pos h1]

theorem no_field (l : List S35) (a : Int) (hp : 0 < l.length) (h0 : 0 ≤ a) (h1 : a < l.length) (h : beginI l a = -1) (i : Int) (i0 : 0 ≤ i) (i1 : i < l.length) : isF l i = false := by
  rcases findW_cases (isF l) (fun j => (a - j) % (l.length : Int)) l.length 0 with ⟨_, hf⟩ | ⟨j, _, _, h3, _, h5⟩
  · -- i is met at j = (a - i) % n
    have hm0 := Int.emod_nonneg (a - i) (b := (l.length : Int)) (by omega)
    have hm1 := Int.emod_lt_of_pos (a - i) (b := (l.length : Int)) (by omega)
    have := hf ((a - i) % (l.length : Int)).toNat (by omega) (by omega)
    simp only [Int.toNat_of_nonneg hm0] at this
    rw [sub_sub_emod a i l.length i0 i1] at this
    exact this
  · rw [beginI, h5] at h
    have := Int.emod_nonneg (a - j) (b := (l.length : Int)) (by omega)
    omega

theorem takeW_congr (p : Int → Bool) (g g' : Nat → Int) (h : ∀ j, g j = g' j) : ∀ c s, takeW p g c s = takeW p g' c s := by
  have : g = g' := funext h
  subst this; intros; rfl
theorem findW_congr (p : Int → Bool) (g g' : Nat → Int) (h : ∀ j, g j = g' j) : ∀ c s, findW p g c s = findW p g' c s := by
  have : g = g' := funext h
  subst this; intros; rfl
theorem fCells_eq (r c : Int) (l : List S35) (cu : Int) (lo ins : Bool) (a : Int) (hn : l.length ≤ 16383) (h0 : 0 ≤ a) (h1 : a < l.length) : field_Cells.f r c l cu lo ins a = some (cellsI l a) := by
  unfold field_Cells.f; rw [if_pos hn, if_pos h0, if_pos h1]
theorem fNext_eq (r c : Int) (l : List S35) (cu : Int) (lo ins : Bool) (a : Int) (hn : l.length ≤ 16383) (h0 : 0 ≤ a) (h1 : a < l.length) : field_Next.f r c l cu lo ins a = some (nextI l a) := by
  unfold field_Next.f; rw [if_pos hn, if_pos h0, if_pos h1]
theorem rd_nat (l : List S35) (i : Nat) (h : i < l.length) : rd_T35 l (i : Int) = l[i] := rd_getElem l i h
/-- a cell's field's attribute -/
def ofI (l : List S35) (a : Int) : S33 := if beginI l a < 0 then ⟨false, false, 0, false⟩ else (rd_T35 l (beginI l a)).f1
/-- a cell is open -/
def openI (l : List S35) (a : Int) : Bool := !isF l a && !(ofI l a).f0
theorem fOf_eq (r c : Int) (l : List S35) (cu : Int) (lo ins : Bool) (a : Int) (hn : l.length ≤ 16383) (h0 : 0 ≤ a) (h1 : a < l.length) : field_Of.f r c l cu lo ins a = some ((ofI l a).f0, (ofI l a).f1, (ofI l a).f2, (ofI l a).f3) := by
  unfold field_Of.f ofI
  rw [fBegin_eq r c l cu lo ins a hn h0 h1, Option.bind_some]
  rcases begin_range l a (by omega) with hb | ⟨hb0, hb1, _⟩
  · rw [hb, if_pos (by decide), if_pos (by decide)]
  · have hlt : ¬ beginI l a < 0 := by omega
    rw [if_neg hlt, if_pos hb0, if_pos hb1, if_neg hlt]
theorem fOpen_eq (r c : Int) (l : List S35) (cu : Int) (lo ins : Bool) (a : Int) (hn : l.length ≤ 16383) (h0 : 0 ≤ a) (h1 : a < l.length) : field_Open.f r c l cu lo ins a = some (openI l a) := by
  unfold field_Open.f openI
  rw [if_pos h0, if_pos h1, fOf_eq r c l cu lo ins a hn h0 h1, isF_rd]
  cases isF l a <;> simp
/-- a cell is right -/
def okC (x : S35) : Bool := if x.f0 = true then (x.f2 == 0 && (decide (0 ≤ x.f1.f2) && decide (x.f1.f2 ≤ 3))) else ((!x.f1.f0 && (!x.f1.f1 && (x.f1.f2 == 0 && (!x.f1.f3)))) && (x.f2 == 0 || (x.f2 == 28 || (x.f2 == 30 || (decide (64 ≤ x.f2) && decide (x.f2 ≤ 254))))))
theorem rCell_eq (x : S35) : shutterref10_Cell.f x.f0 x.f1.f0 x.f1.f1 x.f1.f2 x.f1.f3 x.f2 = some (okC x) := by
  unfold shutterref10_Cell.f okC
  by_cases h : x.f0 = true
  · rw [if_pos h, if_pos h]
    by_cases h2 : x.f2 = 0
    · rw [if_pos h2]
      by_cases h3 : x.f1.f2 ≥ 0
      · rw [if_pos h3]; simp [h2]; intro _; omega
      · rw [if_neg h3]; simp [h2]; intro _; omega
    · rw [if_neg h2]; simp [h2]
  · rw [if_neg h, if_neg h]
    cases hA : (!x.f1.f0 && (!x.f1.f1 && (x.f1.f2 == 0 && (!x.f1.f3))))
    · simp
    · simp only [if_true, Bool.true_and]
      unfold shutterref05_Char.f
      by_cases e0 : x.f2 = 0
      · simp [e0]
      · by_cases e1 : x.f2 = 28
        · simp [e1]
        · by_cases e2 : x.f2 = 30
          · simp [e2]
          · by_cases e3 : x.f2 ≥ 64
            · rw [if_neg e0, if_neg e1, if_neg e2, if_pos e3, beq_eq_false_iff_ne.2 e0, beq_eq_false_iff_ne.2 e1, beq_eq_false_iff_ne.2 e2, decide_eq_true (show 64 ≤ x.f2 from e3)]; rfl
            · rw [if_neg e0, if_neg e1, if_neg e2, if_neg e3, beq_eq_false_iff_ne.2 e0, beq_eq_false_iff_ne.2 e1, beq_eq_false_iff_ne.2 e2, decide_eq_false (show ¬ 64 ≤ x.f2 from e3)]; rfl

/-- a screen is right -/
structure RightI (r c : Int) (l : List S35) (cu : Int) : Prop where
  r1 : 1 ≤ r
  c1 : 1 ≤ c
  r2 : r ≤ 16383
  c2 : c ≤ 16383
  rc : r * c ≤ 16383
  len : (l.length : Int) = r * c
  cu0 : 0 ≤ cu
  cu1 : cu < l.length
  ok : ∀ x ∈ l, okC x = true

theorem rRight_loop (r c : Int) (l : List S35) (cu : Int) (lo ins : Bool) (hn : l.length ≤ 16383) : ∀ (d k i : Nat), d + i = l.length → d < k → shutterref10_Right.l0 k i r c l cu lo ins = some ((l.drop i).all okC)
  | 0, k, i, hd, hk => by
    obtain ⟨k, rfl⟩ : ∃ m, k = m + 1 := ⟨k - 1, by omega⟩
    rw [shutterref10_Right.l0, if_neg (by omega), List.drop_eq_nil_of_le (by omega)]; rfl
  | d + 1, k, i, hd, hk => by
    obtain ⟨k, rfl⟩ : ∃ m, k = m + 1 := ⟨k - 1, by omega⟩
    rw [shutterref10_Right.l0, if_pos (by omega), if_pos (by omega), rd_nat l i (by omega), rCell_eq, Option.bind_some, List.drop_eq_getElem_cons (by omega : i < l.length), List.all_cons]
    cases h : okC l[i]
    · simp
    · simp only [if_true, Bool.true_and]
      rw [w64 (by omega)]
      exact rRight_loop r c l cu lo ins hn d k (i + 1) (by omega) (by omega)
theorem prod_bd {r c : Int} (h1 : 1 ≤ r) (h2 : r ≤ 16383) (h3 : 1 ≤ c) (h4 : c ≤ 16383) : 1 ≤ r * c ∧ r * c ≤ 268402689 := by
  constructor
  · have := Int.mul_le_mul h1 h3 (by omega) (by omega); omega
  · have := Int.mul_le_mul h2 h4 (by omega) (by omega); omega
theorem rRight_eq (k : Nat) (r c : Int) (l : List S35) (cu : Int) (lo ins : Bool) (hk : l.length + 1 < k) (hn : l.length ≤ 16383) : ∃ b, shutterref10_Right.f k r c l cu lo ins = some b ∧ (b = true ↔ RightI r c l cu) := by
  obtain ⟨k, rfl⟩ : ∃ m, k = m + 1 := ⟨k - 1, by omega⟩
  unfold shutterref10_Right.f shutterref10_Sized.f
  have no : (¬ RightI r c l cu) → ∃ b, some false = some b ∧ (b = true ↔ RightI r c l cu) := fun h => ⟨false, rfl, by simp [h]⟩
  have jt : shutterref10_Right.j0 (k + 1) true r c l cu lo ins = some false := by rw [shutterref10_Right.j0, if_pos rfl]
  by_cases h1 : r ≥ 1
  · rw [if_pos h1]
    by_cases h2 : c ≥ 1
    · rw [if_pos h2]
      by_cases h3 : r ≤ 16383
      · rw [if_pos h3]
        by_cases h4 : c ≤ 16383
        · have hb := prod_bd h1 h3 h2 h4
          rw [if_pos h4, Option.bind_some, w64 (by omega)]
          by_cases h5 : r * c ≤ 16383
          · rw [if_pos (decide_eq_true h5)]
            by_cases h6 : (l.length : Int) = r * c
            · rw [if_pos h6]
              by_cases h7 : cu < 0
              · rw [if_pos h7, jt]; exact no (fun h => by have := h.cu0; omega)
              · rw [if_neg h7, shutterref10_Right.j0]
                by_cases h8 : cu ≥ l.length
                · rw [if_pos (decide_eq_true h8)]; exact no (fun h => by have := h.cu1; omega)
                · rw [if_neg (by simp; omega)]
                  have := rRight_loop r c l cu lo ins hn l.length k 0 rfl (by omega)
                  rw [show ((0 : Nat) : Int) = 0 from rfl] at this
                  rw [this, List.drop_zero]
                  refine ⟨_, rfl, ?_⟩
                  rw [List.all_eq_true]
                  exact ⟨fun h => ⟨h1, h2, h3, h4, h5, h6, by omega, by omega, h⟩, fun h => h.ok⟩
            · rw [if_neg h6, jt]; exact no (fun h => h6 h.len)
          · rw [if_neg (by simp; omega), jt]; exact no (fun h => h5 h.rc)
        · rw [if_neg h4, Option.bind_some, if_neg (by decide), jt]; exact no (fun h => h4 h.c2)
      · rw [if_neg h3, Option.bind_some, if_neg (by decide), jt]; exact no (fun h => h3 h.r2)
    · rw [if_neg h2, Option.bind_some, if_neg (by decide), jt]; exact no (fun h => h2 h.c1)
  · rw [if_neg h1, Option.bind_some, if_neg (by decide), jt]; exact no (fun h => h1 h.r1)
theorem rFew_eq (k : Nat) (r c : Int) (l : List S35) (cu : Int) (lo ins : Bool) (hk : 202 < k) : ∃ b, shutterref10_Few.f k r c l cu lo ins = some b ∧ (b = true ↔ l.length ≤ 200 ∧ RightI r c l cu) := by
  unfold shutterref10_Few.f
  by_cases h : (l.length : Int) ≤ 200
  · obtain ⟨b, hb, hi⟩ := rRight_eq k r c l cu lo ins (by omega) (by omega)
    rw [if_pos h, hb, Option.bind_some]
    exact ⟨b, rfl, hi.trans ⟨fun x => ⟨by omega, x⟩, fun x => x.2⟩⟩
  · rw [if_neg h]; exact ⟨false, rfl, by simp; intro h'; omega⟩
end Go.Proofs.YtggecanpjkpkiaaDoor.P
