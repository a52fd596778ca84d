/-
The open fields of a screen, one behind the other: what Next and Prev tell, over plain lists. No Go in it.
-/
import Derived.Test.YtggecanpjkpkiaaDoorM1
namespace Go.Proofs.YtggecanpjkpkiaaDoor.P
open Go.RowKit Go.Proofs.YtggecanpjkpkiaaDoorW.PrintWords Go.Proofs.YtggecanpjkpkiaaDoorW.PrintLast
set_option linter.unusedVariables false
set_option linter.unusedSimpArgs false

/-- firstI, told: none on the way, or the first of them. -/
theorem firstI_cases (l : List S35) (g : Nat → Int) (hg : ∀ j, 0 ≤ g j) (hp : 0 < l.length) : (firstI l g = -1 ∧ ∀ j, j < l.length → entI l (g j) = false) ∨ ∃ j, j < l.length ∧ entI l (g j) = true ∧ (∀ i, i < j → entI l (g i) = false) ∧ firstI l g = onI l.length (g j) 1 := by
  unfold firstI
  rcases findW_cases (entI l) g l.length 0 with ⟨h1, h2⟩ | ⟨j, _, h2, h3, h4, h5⟩
  · rw [h1]; exact .inl ⟨rfl, fun j hj => h2 j (by omega) (by omega)⟩
  · rw [h5, if_neg (by have := hg j; omega)]
    exact .inr ⟨j, by omega, h3, fun i hi => h4 i (by omega) hi, rfl⟩
theorem firstI_at (l : List S35) (g : Nat → Int) (hg : ∀ j, 0 ≤ g j) (j : Nat) (hj : j < l.length) (h1 : entI l (g j) = true) (h2 : ∀ i, i < j → entI l (g i) = false) : firstI l g = onI l.length (g j) 1 := by
  unfold firstI
  rw [findW_eq (entI l) g l.length 0 j (by omega) (by omega) h1 (fun i _ hi => h2 i hi), if_neg (by have := hg j; omega)]
theorem way_nn (n : Nat) (hp : 0 < n) (a d : Int) (j : Nat) : 0 ≤ wayI n a d j := wayI_nonneg hp a d j
/-- Each cell is met on a way of as many steps as there are cells: forth .. -/
theorem way_meets (n : Nat) (hp : 0 < n) (a : Int) (x : Int) (x0 : 0 ≤ x) (x1 : x < n) : ∃ j, j < n ∧ wayI n a 1 j = x := by
  refine ⟨((x - a - 1) % (n : Int)).toNat, ?_, ?_⟩
  · have := Int.emod_lt_of_pos (x - a - 1) (b := (n : Int)) (by omega)
    have := Int.emod_nonneg (x - a - 1) (b := (n : Int)) (by omega)
    omega
  · have h0 := Int.emod_nonneg (x - a - 1) (b := (n : Int)) (by omega)
    unfold wayI sgnI
    simp only [show ¬ (1 : Int) < 0 by decide, if_false, Int.one_mul, Int.toNat_of_nonneg h0]
    rw [Int.add_emod, Int.emod_emod_of_dvd _ (Int.dvd_refl _), ← Int.add_emod, show a + 1 + (x - a - 1) = x by omega]
    exact Int.emod_eq_of_lt x0 x1
/-- .. and back. -/
theorem way_meets2 (n : Nat) (hp : 0 < n) (a : Int) (x : Int) (x0 : 0 ≤ x) (x1 : x < n) : ∃ j, j < n ∧ wayI n a (-2) j = x := by
  refine ⟨((a - 2 - x) % (n : Int)).toNat, ?_, ?_⟩
  · have := Int.emod_lt_of_pos (a - 2 - x) (b := (n : Int)) (by omega)
    have := Int.emod_nonneg (a - 2 - x) (b := (n : Int)) (by omega)
    omega
  · have h0 := Int.emod_nonneg (a - 2 - x) (b := (n : Int)) (by omega)
    unfold wayI sgnI
    simp only [show (-2 : Int) < 0 by decide, if_true, Int.toNat_of_nonneg h0]
    rw [show a + -2 + -1 * ((a - 2 - x) % (n : Int)) = (a - 2) - (a - 2 - x) % (n : Int) by omega]
    have := sub_sub_emod (a - 2) x n x0 x1
    exact this
theorem no_ent_next (l : List S35) (a : Int) (hp : 0 < l.length) : nextI l a = -1 ↔ ∀ x : Int, 0 ≤ x → x < l.length → entI l x = false := by
  unfold nextI
  constructor
  · intro h x x0 x1
    obtain ⟨j, hj, rfl⟩ := way_meets l.length hp a x x0 x1
    rcases firstI_cases l (wayI l.length a 1) (way_nn _ hp a 1) hp with ⟨_, h2⟩ | ⟨i, _, _, _, h5⟩
    · exact h2 j hj
    · rw [h5] at h; have := onI_nonneg hp (wayI l.length a 1 i) 1; omega
  · intro h
    rcases firstI_cases l (wayI l.length a 1) (way_nn _ hp a 1) hp with ⟨h1, _⟩ | ⟨i, _, h3, _, _⟩
    · exact h1
    · rw [h _ (wayI_nonneg hp _ _ _) (wayI_lt hp _ _ _)] at h3; cases h3
theorem no_ent_prev (l : List S35) (a : Int) (hp : 0 < l.length) : prevI l a = -1 ↔ ∀ x : Int, 0 ≤ x → x < l.length → entI l x = false := by
  unfold prevI
  constructor
  · intro h x x0 x1
    obtain ⟨j, hj, rfl⟩ := way_meets2 l.length hp a x x0 x1
    rcases firstI_cases l (wayI l.length a (-2)) (way_nn _ hp a (-2)) hp with ⟨_, h2⟩ | ⟨i, _, _, _, h5⟩
    · exact h2 j hj
    · rw [h5] at h; have := onI_nonneg hp (wayI l.length a (-2) i) 1; omega
  · intro h
    rcases firstI_cases l (wayI l.length a (-2)) (way_nn _ hp a (-2)) hp with ⟨h1, _⟩ | ⟨i, _, h3, _, _⟩
    · exact h1
    · rw [h _ (wayI_nonneg hp _ _ _) (wayI_lt hp _ _ _)] at h3; cases h3
/-- What Next tells, if it tells one: the cell behind one where an open field begins. -/
theorem next_ent (l : List S35) (a : Int) (hp : 0 < l.length) (h : nextI l a ≠ -1) : ∃ e : Int, 0 ≤ e ∧ e < l.length ∧ entI l e = true ∧ nextI l a = onI l.length e 1 := by
  unfold nextI at h ⊢
  rcases firstI_cases l (wayI l.length a 1) (way_nn _ hp a 1) hp with ⟨h1, _⟩ | ⟨i, _, h3, _, h5⟩
  · exact absurd h1 h
  · exact ⟨_, wayI_nonneg hp _ _ _, wayI_lt hp _ _ _, h3, h5⟩
theorem prev_ent (l : List S35) (a : Int) (hp : 0 < l.length) (h : prevI l a ≠ -1) : ∃ e : Int, 0 ≤ e ∧ e < l.length ∧ entI l e = true ∧ prevI l a = onI l.length e 1 := by
  unfold prevI at h ⊢
  rcases firstI_cases l (wayI l.length a (-2)) (way_nn _ hp a (-2)) hp with ⟨h1, _⟩ | ⟨i, _, h3, _, h5⟩
  · exact absurd h1 h
  · exact ⟨_, wayI_nonneg hp _ _ _, wayI_lt hp _ _ _, h3, h5⟩
theorem ent_parts {l : List S35} {e : Int} (h : entI l e = true) : isF l e = true ∧ protI l e = false ∧ isF l (onI l.length e 1) = false := by
  unfold entI at h
  rw [Bool.and_eq_true, Bool.and_eq_true] at h
  exact ⟨h.1.1, by simpa using h.1.2, by simpa using h.2⟩
/-- the field of the cell behind one with a field -/
theorem begin_behind (l : List S35) (e : Int) (e0 : 0 ≤ e) (e1 : e < l.length) (hF : isF l e = true) (hN : isF l (onI l.length e 1) = false) : beginI l (onI l.length e 1) = e := by
  have hp : 0 < l.length := by omega
  have hn := onI_nonneg hp e 1
  have hlt := onI_lt hp e 1
  have hw : wayI l.length (onI l.length e 1) (-1) 0 = e := by
    rw [wayI_zero]; unfold onI
    rw [Int.emod_add_emod, show e + 1 + -1 = e by omega]; exact Int.emod_eq_of_lt e0 e1
  have := begin_way l (onI l.length e 1) hn hlt hN 0 hp (by rw [hw]; exact hF) (fun i hi => by omega)
  rw [this, hw]
/-- the first cell of an open field: it is open, and its field's cells begin with it -/
theorem first_isopen (l : List S35) (e : Int) (e0 : 0 ≤ e) (e1 : e < l.length) (h : entI l e = true) : openI l (onI l.length e 1) = true := by
  obtain ⟨hF, hP, hN⟩ := ent_parts h
  have hb := begin_behind l e e0 e1 hF hN
  unfold openI ofI
  rw [hb, if_neg (by omega), hN]
  show (!false && !(rd_T35 l e).f1.f0) = true
  have : (rd_T35 l e).f1.f0 = false := hP
  rw [this]; rfl
theorem first_open (l : List S35) (e : Int) (e0 : 0 ≤ e) (e1 : e < l.length) (h : entI l e = true) : openI l (onI l.length e 1) = true ∧ ∃ t, cellsI l (onI l.length e 1) = onI l.length e 1 :: t := by
  obtain ⟨hF, hP, hN⟩ := ent_parts h
  have hp : 0 < l.length := by omega
  have hb := begin_behind l e e0 e1 hF hN
  constructor
  · unfold openI ofI
    rw [hb, if_neg (by omega), hN]
    show (!false && !(rd_T35 l e).f1.f0) = true
    have : (rd_T35 l e).f1.f0 = false := hP
    rw [this]; rfl
  · unfold cellsI
    rw [hb, if_neg (by omega)]
    obtain ⟨m, hm⟩ : ∃ m, l.length = m + 1 := ⟨l.length - 1, by omega⟩
    have hw : wayI l.length e 1 0 = onI l.length e 1 := wayI_zero _ _ _
    have hT : ∀ c, takeW (isF l) (wayI l.length e 1) (c + 1) 0 = onI l.length e 1 :: takeW (isF l) (wayI l.length e 1) c 1 := by
      intro c
      rw [takeW, hw, if_neg (by rw [hN]; decide)]
    exact ⟨takeW (isF l) (wayI l.length e 1) m 1, by rw [← hT m, ← hm]⟩
/-- Going on from an open field's first cell, and back: one is where one was. -/
theorem next_prev (l : List S35) (e : Int) (e0 : 0 ≤ e) (e1 : e < l.length) (h : entI l e = true) : 0 ≤ nextI l (onI l.length e 1) ∧ nextI l (onI l.length e 1) < l.length ∧ prevI l (nextI l (onI l.length e 1)) = onI l.length e 1 := by
  obtain ⟨hF, hP, hN⟩ := ent_parts h
  have hp : 0 < l.length := by omega
  -- the way on, told from e
  have hw : ∀ j, wayI l.length (onI l.length e 1) 1 j = (e + 2 + j) % (l.length : Int) := by
    intro j; unfold wayI onI sgnI
    simp only [show ¬ (1 : Int) < 0 by decide, if_false, Int.one_mul]
    rw [show (e + 1) % (l.length : Int) + 1 + (j : Int) = (e + 1) % (l.length : Int) + (1 + (j : Int)) by omega, Int.emod_add_emod]
    congr 1; omega
  have hne : nextI l (onI l.length e 1) ≠ -1 := fun hh => by
    rw [(no_ent_next l _ hp).1 hh e e0 e1] at h; cases h
  have hN2 : 2 ≤ l.length := by
    rcases Nat.lt_or_ge l.length 2 with hh | hh
    · exfalso
      have hl : l.length = 1 := by omega
      have : onI l.length e 1 = e := by unfold onI; rw [hl]; have : e = 0 := by omega
                                        subst this; decide
      rw [this, hF] at hN; cases hN
    · exact hh
  unfold nextI at hne ⊢
  rcases firstI_cases l (wayI l.length (onI l.length e 1) 1) (way_nn _ hp _ 1) hp with ⟨h1, _⟩ | ⟨j, hj, h3, h4, h5⟩
  · exact absurd h1 hne
  rw [h5]
  refine ⟨onI_nonneg hp _ _, onI_lt hp _ _, ?_⟩
  have hj2 : j + 1 < l.length := by
    rcases Nat.lt_or_ge (j + 1) l.length with hh | hh
    · exact hh
    · exfalso
      have ej : j = l.length - 1 := by omega
      have := h4 (l.length - 2) (by omega)
      rw [hw, show (e + 2 + ((l.length - 2 : Nat) : Int)) = e + (l.length : Int) by omega, Int.add_emod_right, Int.emod_eq_of_lt e0 e1, h] at this
      cases this
  have hb : ∀ i : Nat, i ≤ j + 1 → wayI l.length (onI l.length (wayI l.length (onI l.length e 1) 1 j) 1) (-2) i = (e + 1 + ((j : Int) - i)) % (l.length : Int) := by
    intro i hi
    rw [hw]; unfold wayI onI sgnI
    simp only [show (-2 : Int) < 0 by decide, if_true]
    rw [show ((e + 2 + (j : Int)) % (l.length : Int) + 1) % (l.length : Int) + -2 + -1 * (i : Int) = ((e + 2 + (j : Int)) % (l.length : Int) + 1) % (l.length : Int) + (-2 - (i : Int)) by omega, Int.emod_add_emod, Int.add_assoc, Int.emod_add_emod]
    congr 1; omega
  unfold prevI
  have he : wayI l.length (onI l.length (wayI l.length (onI l.length e 1) 1 j) 1) (-2) (j + 1) = e := by
    rw [hb (j + 1) (Nat.le_refl _), show e + 1 + ((j : Int) - ((j + 1 : Nat) : Int)) = e by omega]; exact Int.emod_eq_of_lt e0 e1
  rw [firstI_at l _ (way_nn _ hp _ (-2)) (j + 1) hj2 (by rw [he]; exact h) (fun i hi => ?_), he]
  rw [hb i (by omega)]
  by_cases hij : i = j
  · subst hij
    rw [show e + 1 + ((i : Int) - (i : Int)) = e + 1 by omega]
    show entI l (onI l.length e 1) = false
    unfold entI; rw [hN]; rfl
  · have := h4 (j - 1 - i) (by omega)
    rw [hw] at this
    rw [show e + 1 + ((j : Int) - (i : Int)) = e + 2 + ((j - 1 - i : Nat) : Int) by omega]
    exact this
end Go.Proofs.YtggecanpjkpkiaaDoor.P
