/-
Cells whose fields begin alike; what edit.Type answers, by cases. No Go in it.
-/
import Derived.Test.YtggecanpjkpkiaaDoorM9p
import Derived.Test.YtggecanpjkpkiaaDoorQ14w
namespace Go.Proofs.YtggecanpjkpkiaaDoor.P
open Go.RowKit Go.Proofs.YtggecanpjkpkiaaDoorW.PrintWords Go.Proofs.YtggecanpjkpkiaaDoorW.PrintLast
set_option linter.unusedVariables false
set_option linter.unusedSimpArgs false
theorem findW_alike {p q : Int → Bool} {g : Nat → Int} (h : ∀ j, p (g j) = q (g j)) : ∀ c s, findW p g c s = findW q g c s
  | 0, s => rfl
  | c + 1, s => by unfold findW; rw [h s, findW_alike h c]
/-- the fields of both begin at the same cells, and are open and numeric alike -/
structure SameF (l l' : List S35) : Prop where
  len : l'.length = l.length
  f : ∀ y : Int, 0 ≤ y → isF l' y = isF l y
  a0 : ∀ y : Int, 0 ≤ y → isF l y = true → (rd_T35 l' y).f1.f0 = (rd_T35 l y).f1.f0
  a1 : ∀ y : Int, 0 ≤ y → isF l y = true → (rd_T35 l' y).f1.f1 = (rd_T35 l y).f1.f1
theorem SameF.begin {l l' : List S35} (h : SameF l l') (hp : 0 < l.length) (x : Int) : beginI l' x = beginI l x := by
  unfold beginI
  rw [h.len]
  exact findW_alike (fun j => h.f _ (Int.emod_nonneg _ (by omega))) _ _
theorem SameF.of0 {l l' : List S35} (h : SameF l l') (hp : 0 < l.length) (x : Int) : (ofI l' x).f0 = (ofI l x).f0 := by
  unfold ofI
  rw [h.begin hp]
  rcases begin_range l x hp with hb | ⟨b0, b1, hF⟩
  · rw [hb, if_pos (by decide), if_pos (by decide)]
  · rw [if_neg (by omega), if_neg (by omega)]; exact h.a0 _ b0 hF
theorem SameF.of1 {l l' : List S35} (h : SameF l l') (hp : 0 < l.length) (x : Int) : (ofI l' x).f1 = (ofI l x).f1 := by
  unfold ofI
  rw [h.begin hp]
  rcases begin_range l x hp with hb | ⟨b0, b1, hF⟩
  · rw [hb, if_pos (by decide), if_pos (by decide)]
  · rw [if_neg (by omega), if_neg (by omega)]; exact h.a1 _ b0 hF
theorem SameF.open {l l' : List S35} (h : SameF l l') (hp : 0 < l.length) (x : Int) (x0 : 0 ≤ x) : openI l' x = openI l x := by
  unfold openI; rw [h.f x x0, h.of0 hp]
theorem SameF.trans {l l' l'' : List S35} (h : SameF l l') (h' : SameF l' l'') : SameF l l'' :=
  ⟨h'.len.trans h.len, fun y y0 => (h'.f y y0).trans (h.f y y0), fun y y0 e => (h'.a0 y y0 ((h.f y y0).trans e)).trans (h.a0 y y0 e), fun y y0 e => (h'.a1 y y0 ((h.f y y0).trans e)).trans (h.a1 y y0 e)⟩
theorem sameF_mod (l : List S35) (a : Int) (hp : 0 < l.length) : SameF l (modI l a) := by
  refine ⟨modI_length l a, fun y y0 => ?_, fun y y0 e => ?_, fun y y0 e => ?_⟩ <;> (try unfold isF) <;> unfold modI <;> rcases begin_range l a hp with hb | ⟨b0, b1, hF⟩
  · rw [hb, if_neg (by decide)]
  · rw [if_pos b0, rd_set l _ y _ b0 b1 y0]; split
    · rename_i h; subst h; rfl
    · rfl
  · rw [hb, if_neg (by decide)]
  · rw [if_pos b0, rd_set l _ y _ b0 b1 y0]; split
    · rename_i h; subst h; rfl
    · rfl
  · rw [hb, if_neg (by decide)]
  · rw [if_pos b0, rd_set l _ y _ b0 b1 y0]; split
    · rename_i h; subst h; rfl
    · rfl
/-- cells that change where no field begins, into cells where none does -/
theorem sameF_of {l l' : List S35} (hl : l'.length = l.length) (h : ∀ y : Int, 0 ≤ y → rd_T35 l' y = rd_T35 l y ∨ (isF l y = false ∧ isF l' y = false)) : SameF l l' := by
  refine ⟨hl, fun y y0 => ?_, fun y y0 e => ?_, fun y y0 e => ?_⟩
  · rcases h y y0 with h | ⟨h1, h2⟩
    · unfold isF; rw [h]
    · rw [h1, h2]
  · rcases h y y0 with h | ⟨h1, h2⟩
    · rw [h]
    · rw [h1] at e; cases e
  · rcases h y y0 with h | ⟨h1, h2⟩
    · rw [h]
    · rw [h1] at e; cases e
theorem sameF_set {l : List S35} (cu : Int) (c0 : 0 ≤ cu) (c1 : cu < l.length) (h : isF l cu = false) (a : Int) : SameF l (l.set (cu : Int).toNat (newC a)) := by
  refine sameF_of (by rw [List.length_set]) (fun y y0 => ?_)
  by_cases e : cu = y
  · subst e; right; exact ⟨h, by rw [isF_set l cu cu _ c0 c1 c0, if_pos rfl]; rfl⟩
  · left; rw [rd_set l cu y _ c0 c1 y0, if_neg e]
theorem why_zero {l : List S35} {cu : Int} {lo ins : Bool} {a : Int} (h : whyI l cu lo ins a = 0) : letterI a = true ∧ lo = false ∧ openI l cu = true ∧ ¬ ((ofI l cu).f1 = true ∧ digitI a = false ∧ a ≠ 28 ∧ a ≠ 30) ∧ ¬ (ins = true ∧ freeI l cu < 0) := by
  unfold whyI at h
  split at h
  · cases h
  split at h
  · cases h
  split at h
  · cases h
  split at h
  · cases h
  split at h
  · cases h
  rename_i h1 h2 h3 h4 h5
  exact ⟨by simpa using h1, by simpa using h2, by simpa using h3, h4, h5⟩
theorem typeF_ok {r c : Int} {l : List S35} {cu : Int} {lo ins : Bool} {a : Int} (h : whyI l cu lo ins a = 0) : typeF r c l cu lo ins a = (r, c, outI l cu ins a, onwardI (outI l cu ins a) cu, lo, ins, none, []) := by
  unfold typeF; rw [if_pos h]
theorem typeF_err {r c : Int} {l : List S35} {cu : Int} {lo ins : Bool} {a : Int} (h : ¬ whyI l cu lo ins a = 0) : (typeF r c l cu lo ins a).2.2.2.2.2.2.1.isNone = false := by
  unfold typeF; rw [if_neg h]; split <;> rfl
end Go.Proofs.YtggecanpjkpkiaaDoor.P
