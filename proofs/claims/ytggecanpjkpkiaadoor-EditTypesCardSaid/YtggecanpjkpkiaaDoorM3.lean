/-
Screens are alike, a screen is copied, where fields begin: what the printed functions answer, over plain lists. No Go in it.
-/
import Derived.Test.YtggecanpjkpkiaaDoorM1
import Derived.Test.YtggecanpjkpkiaaDoorPx13
import Derived.Test.YtggecanpjkpkiaaDoorPx14
namespace Go.Proofs.YtggecanpjkpkiaaDoor.P
open Go.RowKit Go.Proofs.YtggecanpjkpkiaaDoorW.PrintWords Go.Proofs.YtggecanpjkpkiaaDoorW.PrintLast
set_option linter.unusedVariables false
set_option linter.unusedSimpArgs false

theorem cell_ext {x y : S35} (h0 : x.f0 = y.f0) (h1 : x.f1.f0 = y.f1.f0) (h2 : x.f1.f1 = y.f1.f1) (h3 : x.f1.f2 = y.f1.f2) (h4 : x.f1.f3 = y.f1.f3) (h5 : x.f2 = y.f2) : x = y := by
  obtain ⟨x0, ⟨x1, x2, x3, x4⟩, x5⟩ := x
  obtain ⟨y0, ⟨y1, y2, y3, y4⟩, y5⟩ := y
  simp only at h0 h1 h2 h3 h4 h5
  subst h0 h1 h2 h3 h4 h5
  rfl
theorem rSame_loop (r c : Int) (l : List S35) (cu : Int) (lo ins : Bool) (r' c' : Int) (l' : List S35) (cu' : Int) (lo' ins' : Bool) (hn : l.length ≤ 16383) (hl : l.length = l'.length) : ∀ (d k i : Nat), d + i = l.length → d < k → ∃ b, shutterref10_Same.l0 k i r c l cu lo ins r' c' l' cu' lo' ins' = some b ∧ (b = true ↔ l.drop i = l'.drop i)
  | 0, k, i, hd, hk => by
    obtain ⟨k, rfl⟩ : ∃ m, k = m + 1 := ⟨k - 1, by omega⟩
    rw [shutterref10_Same.l0, if_neg (by omega), List.drop_eq_nil_of_le (by omega), List.drop_eq_nil_of_le (by omega)]
    exact ⟨true, rfl, by simp⟩
  | d + 1, k, i, hd, hk => by
    obtain ⟨k, rfl⟩ : ∃ m, k = m + 1 := ⟨k - 1, by omega⟩
    rw [shutterref10_Same.l0, if_pos (by omega), if_pos (by omega), if_pos (by omega), rd_nat l i (by omega), rd_nat l' i (by omega), List.drop_eq_getElem_cons (by omega : i < l.length), List.drop_eq_getElem_cons (by omega : i < l'.length)]
    generalize l[i]'(by omega) = x
    generalize l'[i]'(by omega) = y
    by_cases h : (!(x.f0 == y.f0) || ((!(x.f1.f0 == y.f1.f0) || (!(x.f1.f1 == y.f1.f1) || (!(x.f1.f2 == y.f1.f2) || (!(x.f1.f3 == y.f1.f3))))) || (!(x.f2 == y.f2)))) = true
    · rw [if_pos h]
      refine ⟨false, rfl, ?_⟩
      simp only [Bool.false_eq_true, false_iff]
      intro e
      obtain rfl := (List.cons.inj e).1
      simp at h
    · rw [if_neg h, w64 (by omega)]
      simp only [Bool.or_eq_true, Bool.not_eq_true', beq_eq_false_iff_ne, not_or, Decidable.not_not, ne_eq] at h
      obtain ⟨h0, ⟨h1, h2, h3, h4⟩, h5⟩ := h
      obtain rfl := cell_ext h0 h1 h2 h3 h4 h5
      obtain ⟨b, hb, hi⟩ := rSame_loop r c l cu lo ins r' c' l' cu' lo' ins' hn hl d k (i + 1) (by omega) (by omega)
      refine ⟨b, hb, hi.trans ?_⟩
      constructor
      · intro e; rw [e]
      · intro e; exact (List.cons.inj e).2
theorem rSame_eq (k : Nat) (r c : Int) (l : List S35) (cu : Int) (lo ins : Bool) (r' c' : Int) (l' : List S35) (cu' : Int) (lo' ins' : Bool) (hn : l.length ≤ 16383) (hk : l.length + 1 < k) : ∃ b, shutterref10_Same.f k r c l cu lo ins r' c' l' cu' lo' ins' = some b ∧ (b = true ↔ r = r' ∧ c = c' ∧ l = l' ∧ cu = cu' ∧ lo = lo' ∧ ins = ins') := by
  obtain ⟨k, rfl⟩ : ∃ m, k = m + 1 := ⟨k - 1, by omega⟩
  unfold shutterref10_Same.f
  have jt : shutterref10_Same.j0 (k + 1) true r c l cu lo ins r' c' l' cu' lo' ins' = some false := by rw [shutterref10_Same.j0, if_pos rfl]
  have no : (¬ (r = r' ∧ c = c' ∧ l = l' ∧ cu = cu' ∧ lo = lo' ∧ ins = ins')) → ∃ b, some false = some b ∧ (b = true ↔ r = r' ∧ c = c' ∧ l = l' ∧ cu = cu' ∧ lo = lo' ∧ ins = ins') := fun h => ⟨false, rfl, by simp only [Bool.false_eq_true, false_iff]; exact h⟩
  by_cases h1 : r = r'
  · rw [if_pos h1]
    by_cases h2 : c = c'
    · rw [if_pos h2]
      by_cases h3 : cu = cu'
      · rw [if_pos h3]
        by_cases h4 : lo = lo'
        · rw [if_neg (by simp [h4])]
          by_cases h5 : ins = ins'
          · rw [if_neg (by simp [h5]), shutterref10_Same.j0]
            by_cases h6 : l.length = l'.length
            · rw [if_neg (by simp [h6])]
              obtain ⟨b, hb, hi⟩ := rSame_loop r c l cu lo ins r' c' l' cu' lo' ins' hn h6 l.length k 0 rfl (by omega)
              rw [show ((0 : Nat) : Int) = 0 from rfl] at hb
              rw [hb]
              refine ⟨b, rfl, hi.trans ?_⟩
              rw [List.drop_zero, List.drop_zero]
              exact ⟨fun e => ⟨h1, h2, e, h3, h4, h5⟩, fun e => e.2.2.1⟩
            · rw [if_pos (by simp; omega)]; exact no (fun h => h6 (by rw [h.2.2.1]))
          · rw [if_pos (by simpa using h5), jt]; exact no (fun h => h5 h.2.2.2.2.2)
        · rw [if_pos (by simpa using h4), jt]; exact no (fun h => h4 h.2.2.2.2.1)
      · rw [if_neg h3, jt]; exact no (fun h => h3 h.2.2.2.1)
    · rw [if_neg h2, jt]; exact no (fun h => h2 h.2.1)
  · rw [if_neg h1, jt]; exact no (fun h => h1 h.1)
theorem rSame_self (k : Nat) (r c : Int) (l : List S35) (cu : Int) (lo ins : Bool) (hn : l.length ≤ 16383) (hk : l.length + 1 < k) : shutterref10_Same.f k r c l cu lo ins r c l cu lo ins = some true := by
  obtain ⟨b, hb, hi⟩ := rSame_eq k r c l cu lo ins r c l cu lo ins hn hk
  rw [hb, hi.2 ⟨rfl, rfl, rfl, rfl, rfl, rfl⟩]
theorem rCopy_eq (r c : Int) (l : List S35) (cu : Int) (lo ins : Bool) (hn : l.length ≤ 16383) : shutterref10_Copy.f r c l cu lo ins = some (r, c, l, cu, lo, ins) := by
  unfold shutterref10_Copy.f
  simp only [Option.bind_some, List.length_nil, List.nil_append]
  rw [if_pos (by omega)]

end Go.Proofs.YtggecanpjkpkiaaDoor.P
