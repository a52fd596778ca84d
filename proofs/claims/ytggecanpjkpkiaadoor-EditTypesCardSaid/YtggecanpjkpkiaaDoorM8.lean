/-
A letter that is typed: edit.Type and the document's answer come to the same, over plain lists. No Go in it.
-/
import Derived.Test.YtggecanpjkpkiaaDoorM6
import Derived.Test.YtggecanpjkpkiaaDoorPx14
import Derived.Test.YtggecanpjkpkiaaDoorPx15
import Derived.Test.YtggecanpjkpkiaaDoorPx3
import Derived.Test.YtggecanpjkpkiaaDoorPx5
import Derived.Test.YtggecanpjkpkiaaDoorPx6
import Derived.Test.YtggecanpjkpkiaaDoorPx8
import Derived.Test.YtggecanpjkpkiaaDoorPx9
namespace Go.Proofs.YtggecanpjkpkiaaDoor.P
open Go.RowKit Go.Proofs.YtggecanpjkpkiaaDoorW.PrintWords Go.Proofs.YtggecanpjkpkiaaDoorW.PrintLast
set_option linter.unusedVariables false
set_option linter.unusedSimpArgs false
/-! lists, cell by cell -/
theorem ff_ : ¬ (false = true) := by decide
theorem tf_ : ¬ (true = false) := by decide
theorem rd_set (l : List S35) (x y : Int) (v : S35) (x0 : 0 ≤ x) (x1 : x < l.length) (y0 : 0 ≤ y) : rd_T35 (l.set (x : Int).toNat v) y = if x = y then v else rd_T35 l y := by
  obtain ⟨m, rfl⟩ := Int.eq_ofNat_of_zero_le x0
  obtain ⟨n, rfl⟩ := Int.eq_ofNat_of_zero_le y0
  simp only [rd_T35, Int.toNat_natCast, List.getD_eq_getElem?_getD, List.getElem?_set]
  by_cases h : m = n
  · subst h; rw [if_pos rfl, if_pos rfl, if_pos (by omega)]; rfl
  · rw [if_neg h, if_neg (by omega)]
theorem cells_ext {l l' : List S35} (hl : l.length = l'.length) (h : ∀ y : Int, 0 ≤ y → y < l.length → rd_T35 l y = rd_T35 l' y) : l = l' := by
  apply List.ext_getElem hl
  intro i h1 h2
  have := h (i : Int) (by omega) (by omega)
  rwa [rd_nat l i h1, rd_nat l' i h2] at this
theorem isF_set (l : List S35) (x y : Int) (v : S35) (x0 : 0 ≤ x) (x1 : x < l.length) (y0 : 0 ≤ y) : isF (l.set (x : Int).toNat v) y = if x = y then v.f0 else isF l y := by
  unfold isF; rw [rd_set l x y v x0 x1 y0]; split <;> rfl
/-! a line -/
theorem row_open {l : List S35} {a : Int} (a0 : 0 ≤ a) (a1 : a < l.length) (ho : openI l a = true) :
    (rowI l a).Nodup ∧ (∀ x ∈ rowI l a, 0 ≤ x ∧ x < l.length ∧ isF l x = false ∧ beginI l x = beginI l a) ∧ 0 < (rowI l a).length ∧ rd (rowI l a) 0 = a := by
  obtain ⟨h1, h2, h3⟩ := cells_all l a a0 a1 (open_isF ho)
  have e : rowI l a = (cellsI l a).dropWhile (fun x => x != a) := by unfold rowI; rw [if_pos ho]
  have hsub : (rowI l a).Sublist (cellsI l a) := by rw [e]; exact List.dropWhile_sublist _
  have hhead : ∀ L : List Int, a ∈ L → ∃ t, L.dropWhile (fun x => x != a) = a :: t := by
    intro L
    induction L with
    | nil => intro h; cases h
    | cons x t ih =>
      intro h
      rw [List.dropWhile_cons]
      by_cases hx : x = a
      · subst hx; exact ⟨t, by simp⟩
      · rw [if_pos (by simpa using hx)]
        rcases List.mem_cons.1 h with h | h
        · exact absurd h.symm hx
        · exact ih h
  obtain ⟨t, ht⟩ := hhead _ h1
  refine ⟨h2.sublist hsub, fun x hx => h3 x (hsub.subset hx), ?_, ?_⟩
  · rw [e, ht]; simp
  · rw [e, ht]; rfl
theorem rd_mem (L : List Int) (i : Nat) (hi : i < L.length) : rd L (i : Int) ∈ L := by rw [rd_nat_int L i hi]; exact List.getElem_mem hi
theorem rd_inj {L : List Int} (h : L.Nodup) {i j : Nat} (hi : i < L.length) (hj : j < L.length) (e : rd L (i : Int) = rd L (j : Int)) : i = j := by
  rw [rd_nat_int L i hi, rd_nat_int L j hj] at e
  rcases Nat.lt_trichotomy i j with hij | hij | hij
  · exact absurd e (List.pairwise_iff_getElem.1 h i j hi hj hij)
  · exact hij
  · exact absurd e.symm (List.pairwise_iff_getElem.1 h j i hj hi hij)
theorem indexW_from (p : Int → Bool) : ∀ (L : List Int) (i : Int), 0 ≤ i → (indexW p L i = -1 ∧ ∀ x ∈ L, p x = false) ∨ ∃ j : Nat, j < L.length ∧ indexW p L i = i + j ∧ p (rd L j) = true ∧ ∀ m : Nat, m < j → p (rd L m) = false
  | [], i, h => .inl ⟨rfl, fun x hx => by cases hx⟩
  | x :: xs, i, h => by
    unfold indexW
    by_cases hx : p x = true
    · rw [if_pos hx]
      exact .inr ⟨0, by simp, by omega, by simpa [rd] using hx, fun m hm => by omega⟩
    · rw [if_neg hx]
      rcases indexW_from p xs (i + 1) (by omega) with ⟨h1, h2⟩ | ⟨j, h1, h2, h3, h4⟩
      · exact .inl ⟨h1, fun y hy => by
          rcases List.mem_cons.1 hy with rfl | hy
          · simpa using hx
          · exact h2 y hy⟩
      · refine .inr ⟨j + 1, by simpa using h1, by omega, by simpa [rd] using h3, fun m hm => ?_⟩
        cases m with
        | zero => simpa [rd] using hx
        | succ m => have := h4 m (by omega); simpa [rd] using this
/-- the first cell of a line without a character -/
def freeI (l : List S35) (a : Int) : Int := indexW (emptyC l) (rowI l a) 0
theorem free_range (l : List S35) (a : Int) : freeI l a = -1 ∨ ∃ j : Nat, j < (rowI l a).length ∧ freeI l a = j ∧ emptyC l (rd (rowI l a) j) = true ∧ ∀ m : Nat, m < j → emptyC l (rd (rowI l a) m) = false := by
  rcases indexW_from (emptyC l) (rowI l a) 0 (Int.le_refl _) with ⟨h, _⟩ | ⟨j, h1, h2, h3, h4⟩
  · exact .inl h
  · exact .inr ⟨j, h1, by unfold freeI; omega, h3, h4⟩
/-! what is pushed on -/
def shiftD (row : List Int) : Nat → List S35 → List S35
  | 0, L => L
  | x + 1, L => shiftD row x (L.set (rd row ((x + 1 : Nat) : Int)).toNat (rd_T35 L (rd row (x : Int))))
theorem shiftD_length (row : List Int) : ∀ x L, (shiftD row x L).length = L.length
  | 0, L => rfl
  | x + 1, L => by unfold shiftD; rw [shiftD_length row x, List.length_set]
theorem shiftD_rd (row : List Int) (hn : row.Nodup) (n : Nat) (hr : ∀ x ∈ row, 0 ≤ x ∧ x < n) : ∀ (x : Nat) (L : List S35), L.length = n → x < row.length →
    (∀ i : Nat, 1 ≤ i → i ≤ x → rd_T35 (shiftD row x L) (rd row (i : Int)) = rd_T35 L (rd row ((i - 1 : Nat) : Int))) ∧ (∀ y : Int, 0 ≤ y → (∀ i : Nat, 1 ≤ i → i ≤ x → rd row (i : Int) ≠ y) → rd_T35 (shiftD row x L) y = rd_T35 L y)
  | 0, L, hL, hx => ⟨fun i h1 h2 => by omega, fun y _ _ => rfl⟩
  | x + 1, L, hL, hx => by
    have hm := hr _ (rd_mem row (x + 1) hx)
    obtain ⟨i1, i2⟩ := shiftD_rd row hn n hr x (L.set (rd row ((x + 1 : Nat) : Int)).toNat (rd_T35 L (rd row (x : Int)))) (by rw [List.length_set]; exact hL) (by omega)
    have hs := fun y (y0 : 0 ≤ y) => rd_set L (rd row ((x + 1 : Nat) : Int)) y (rd_T35 L (rd row (x : Int))) hm.1 (by omega) y0
    unfold shiftD
    refine ⟨fun i h1 h2 => ?_, fun y y0 hy => ?_⟩
    · by_cases e : i = x + 1
      · subst e
        rw [i2 _ hm.1 (fun j j1 j2 he => by have := rd_inj hn (by omega) hx he; omega), hs _ hm.1, if_pos rfl]
        simp
      · rw [i1 i h1 (by omega), hs _ (hr _ (rd_mem row (i - 1) (by omega))).1, if_neg (fun he => by have := rd_inj hn hx (by omega) he; omega)]
    · rw [i2 y y0 (fun j j1 j2 => hy j j1 (by omega)), hs y y0, if_neg (hy (x + 1) (by omega) (Nat.le_refl _))]
theorem pushed_loop (row : List Int) (hrow : row.length ≤ 16383) (n : Nat) (hr : ∀ x ∈ row, 0 ≤ x ∧ x < n) (r c cu : Int) (lo ins : Bool) : ∀ (x K : Nat) (L : List S35), L.length = n → x < row.length → x < K → edit_pushed.l0 K row x r c L cu lo ins = some (true, shiftD row x L)
  | 0, K, L, hL, hx, hk => by
    obtain ⟨K, rfl⟩ : ∃ m, K = m + 1 := ⟨K - 1, by omega⟩
    rw [edit_pushed.l0, if_neg (by omega)]; rfl
  | x + 1, K, L, hL, hx, hk => by
    obtain ⟨K, rfl⟩ : ∃ m, K = m + 1 := ⟨K - 1, by omega⟩
    have h1 := hr _ (rd_mem row (x + 1) hx)
    have h0 := hr _ (rd_mem row x (by omega))
    have e : wrap64 (((x + 1 : Nat) : Int) - 1) = (x : Int) := by rw [w64 (by omega)]; omega
    rw [edit_pushed.l0, if_pos (by omega), if_pos (by omega), if_pos (by omega), e, if_pos (by omega), if_pos (by omega), if_pos h0.1, if_pos (by omega), if_pos h1.1, if_pos (by omega)]
    exact pushed_loop row hrow n hr r c cu lo ins x K _ (by rw [List.length_set]; exact hL) (by omega) (by omega)
theorem emptyC_mod (l : List S35) (a : Int) (hp : 0 < l.length) (x : Int) (x0 : 0 ≤ x) : emptyC (modI l a) x = emptyC l x := by
  unfold emptyC modI
  rcases begin_range l a hp with hb | ⟨b0, b1, _⟩
  · rw [hb, if_neg (by decide)]
  · rw [if_pos b0, rd_set l _ x _ b0 b1 x0]
    split
    · rename_i h; subst h; rfl
    · rfl
theorem indexW_congr (p q : Int → Bool) : ∀ (L : List Int) (i : Int), (∀ x ∈ L, p x = q x) → indexW p L i = indexW q L i
  | [], i, h => rfl
  | x :: xs, i, h => by
    unfold indexW; rw [h x List.mem_cons_self, indexW_congr p q xs (i + 1) (fun y hy => h y (List.mem_cons_of_mem _ hy))]
/-- the cells, pushed on where it was asked for -/
def pushI (l : List S35) (cu : Int) (ins : Bool) : List S35 := if ins = true then shiftD (rowI l cu) (freeI l cu).toNat (modI l cu) else modI l cu
theorem pushI_length (l : List S35) (cu : Int) (ins : Bool) : (pushI l cu ins).length = l.length := by
  unfold pushI; split
  · rw [shiftD_length, modI_length]
  · exact modI_length l cu
theorem fpushed_eq (K : Nat) (r c : Int) (l : List S35) (cu : Int) (lo ins : Bool) (a : Int) (hn : l.length ≤ 16383) (a0 : 0 ≤ a) (a1 : a < l.length) (ho : openI l a = true) (hk : l.length < K) :
    edit_pushed.f K r c (modI l a) cu lo ins (rowI l a) = some (if freeI l a < 0 then (false, modI l a) else (true, shiftD (rowI l a) (freeI l a).toNat (modI l a))) := by
  obtain ⟨hnd, hr, _, _⟩ := row_open a0 a1 ho
  have hl := row_len l a
  have hml := modI_length l a
  have e : indexW (emptyC (modI l a)) (rowI l a) 0 = freeI l a := indexW_congr _ _ _ _ (fun x hx => emptyC_mod l a (by omega) x (hr x hx).1)
  have hi : pushed_index.f (rowI l a) r c (modI l a) cu lo ins = some (freeI l a) := by
    unfold pushed_index.f
    rw [if_pos (by omega), if_pos (List.all_eq_true.2 (fun x hx => by have := hr x hx; rw [Bool.and_eq_true]; exact ⟨decide_eq_true this.1, decide_eq_true (by omega)⟩)), e]
  unfold edit_pushed.f
  rw [hi, Option.bind_some]
  rcases free_range l a with h | ⟨j, h1, h2, _, _⟩
  · rw [h, if_pos (by decide), if_pos (by decide)]
  · rw [h2, if_neg (by omega), if_neg (by omega), Int.toNat_natCast]
    exact pushed_loop (rowI l a) (by omega) l.length (fun x hx => ⟨(hr x hx).1, (hr x hx).2.1⟩) r c cu lo ins j K _ hml h1 (by omega)
/-! where the cursor goes -/
def numI (l : List S35) (i : Int) : Bool := (rd_T35 l i).f1.f1
def onwardI (l : List S35) (cu : Int) : Int :=
  if isF l (onI l.length cu 1) = true then (if protI l (onI l.length cu 1) = true ∧ numI l (onI l.length cu 1) = true ∧ 0 ≤ nextI l (onI l.length cu 1) then nextI l (onI l.length cu 1) else onI l.length (onI l.length cu 1) 1) else onI l.length cu 1
theorem fonward_eq (K : Nat) (r c : Int) (l : List S35) (cu : Int) (lo ins : Bool) (hn : l.length ≤ 16383) (c0 : 0 ≤ cu) (c1 : cu < l.length) (hk : 1 < K) : edit_onward.f K r c l cu lo ins = some (onwardI l cu) := by
  obtain ⟨K, rfl⟩ : ∃ m, K = m + 1 := ⟨K - 1, by omega⟩
  have o0 := onI_nonneg (n := l.length) (by omega) cu 1
  have o1 := onI_lt (n := l.length) (by omega) cu 1
  unfold edit_onward.f onwardI isF protI numI
  rw [fOn_eq r c l cu lo ins cu 1 hn c0 c1, Option.bind_some, if_pos o0, if_pos o1]
  by_cases hF : (rd_T35 l (onI l.length cu 1)).f0 = true
  · rw [if_pos hF, if_pos hF]
    by_cases hP : (rd_T35 l (onI l.length cu 1)).f1.f0 = true
    · rw [if_pos hP, edit_onward.j0]
      by_cases hN : (rd_T35 l (onI l.length cu 1)).f1.f1 = true
      · rw [if_pos hN, fNext_eq r c l cu lo ins _ hn o0 o1, Option.bind_some]
        by_cases hx : nextI l (onI l.length cu 1) ≥ 0
        · rw [if_pos hx, if_pos ⟨hP, hN, hx⟩]
        · rw [if_neg hx, if_neg (fun h => hx h.2.2), fOn_eq r c l cu lo ins _ 1 hn o0 o1, Option.bind_some]
      · rw [if_neg hN, if_neg (fun h => hN h.2.1), fOn_eq r c l cu lo ins _ 1 hn o0 o1, Option.bind_some]
    · rw [if_neg hP, edit_onward.j0, if_neg (by decide), if_neg (fun h => hP h.1), fOn_eq r c l cu lo ins _ 1 hn o0 o1, Option.bind_some]
  · rw [if_neg hF, if_neg hF]
/-! a letter -/
def letterI (a : Int) : Bool := !(a == 0) && (a == 28 || (a == 30 || (decide (64 ≤ a) && decide (a ≤ 254))))
theorem rLetter_eq (a : Int) (a0 : 0 ≤ a) (a1 : a ≤ 255) : shutterref09_Letter.f a = some (letterI a) := by
  unfold shutterref09_Letter.f letterI shutterref05_Char.f
  by_cases e0 : a = 0
  · rw [if_pos e0]; simp [e0]
  · by_cases e1 : a = 28
    · subst e1; rfl
    · by_cases e2 : a = 30
      · subst e2; rfl
      · by_cases e3 : a ≥ 64
        · rw [if_neg e0, if_neg e0, if_neg e1, if_neg e2, if_pos e3, Option.bind_some]
          congr 1
          rw [beq_eq_false_iff_ne.2 e0, beq_eq_false_iff_ne.2 e1, beq_eq_false_iff_ne.2 e2, decide_eq_true (show 64 ≤ a from e3)]
          simp
        · rw [if_neg e0, if_neg e0, if_neg e1, if_neg e2, if_neg e3, Option.bind_some, beq_eq_false_iff_ne.2 e1, beq_eq_false_iff_ne.2 e2, decide_eq_false (show ¬ 64 ≤ a from e3)]; simp
theorem fChar_eq (a : Int) (a0 : 0 ≤ a) (a1 : a ≤ 255) (h : ¬ a = 0) : attr_Char.f a = some (letterI a) := by
  have := rLetter_eq a a0 a1
  unfold shutterref09_Letter.f at this
  rw [if_neg h] at this
  rw [← this]
  unfold attr_Char.f shutterref05_Char.f
  by_cases e1 : a = 28
  · subst e1; rfl
  · by_cases e2 : a = 30
    · subst e2; rfl
    · by_cases e3 : a ≥ 64
      · rw [if_neg h, if_neg e1, if_neg e2, if_pos e3, if_neg h, if_neg e1, if_neg e2, if_pos e3, Option.bind_some]
        congr 1
        by_cases e4 : a = 255
        · subst e4; rfl
        · rw [bne_iff_ne.2 e4]; simp; omega
      · rw [if_neg h, if_neg e1, if_neg e2, if_neg e3, if_neg h, if_neg e1, if_neg e2, if_neg e3]; rfl
def digitI (a : Int) : Bool := (decide (240 ≤ a) && decide (a ≤ 249)) || (a == 96 || a == 75)
theorem digit_eq (a : Int) : edit_Digit.f a = some (digitI a) := by
  unfold edit_Digit.f digitI
  by_cases h1 : a ≥ 240
  · by_cases h2 : a ≤ 249
    · rw [if_pos h1, if_pos h2, decide_eq_true (show 240 ≤ a from h1), decide_eq_true h2]; rfl
    · rw [if_pos h1, if_neg h2, if_neg (by omega), decide_eq_false h2]; simp; omega
  · rw [if_neg h1, decide_eq_false (show ¬ 240 ≤ a from h1)]
    by_cases h3 : a = 96
    · rw [if_pos h3, h3]; rfl
    · rw [if_neg h3, beq_eq_false_iff_ne.2 h3]; simp
/-- why a letter is refused; 0: it isn't -/
def whyI (l : List S35) (cu : Int) (lo ins : Bool) (a : Int) : Int :=
  if letterI a = false then 3 else if lo = true then 7 else if openI l cu = false then 8
  else if (ofI l cu).f1 = true ∧ digitI a = false ∧ a ≠ 28 ∧ a ≠ 30 then 9 else if ins = true ∧ freeI l cu < 0 then 10 else 0
def newC (a : Int) : S35 := ⟨false, ⟨false, false, 0, false⟩, a⟩
/-- the cells behind a letter that is typed -/
def outI (l : List S35) (cu : Int) (ins : Bool) (a : Int) : List S35 := (pushI l cu ins).set (cu : Int).toNat (newC a)
theorem outI_length (l : List S35) (cu : Int) (ins : Bool) (a : Int) : (outI l cu ins a).length = l.length := by unfold outI; rw [List.length_set, pushI_length]
def typeF (r c : Int) (l : List S35) (cu : Int) (lo ins : Bool) (a : Int) : Int × Int × List S35 × Int × Bool × Bool × Option Er × List S164 :=
  if whyI l cu lo ins a = 0 then (r, c, outI l cu ins a, onwardI (outI l cu ins a) cu, lo, ins, none, [])
  else if whyI l cu lo ins a = 3 ∨ whyI l cu lo ins a = 7 then (r, c, l, cu, lo, ins, some (Er.num (whyI l cu lo ins a)), [])
  else (r, c, l, cu, true, ins, some Er.spot, [⟨cu, whyI l cu lo ins a⟩])
theorem ffits_eq (K : Nat) (r c : Int) (l : List S35) (cu : Int) (lo ins : Bool) (a : Int) (hn : l.length ≤ 16383) (c0 : 0 ≤ cu) (c1 : cu < l.length) (hk : 1 < K) :
    edit_fits.f K r c l cu lo ins a = some (if openI l cu = false then some (Er.num 8) else if (ofI l cu).f1 = true ∧ digitI a = false ∧ a ≠ 28 ∧ a ≠ 30 then some (Er.num 9) else none, []) := by
  obtain ⟨K, rfl⟩ : ∃ m, K = m + 1 := ⟨K - 1, by omega⟩
  unfold edit_fits.f
  rw [fOpen_eq r c l cu lo ins cu hn c0 c1, Option.bind_some]
  cases ho : openI l cu with
  | false => rw [if_neg ff_, if_pos rfl]
  | true =>
    rw [if_pos rfl, if_neg tf_]
    have hj : ∀ b, edit_fits.j0 (K + 1) a b r c l cu lo ins = some (if b = true then none else if (ofI l cu).f1 = true ∧ digitI a = false then some (Er.num 9) else none, []) := by
      intro b
      rw [edit_fits.j0]
      cases b with
      | true => rfl
      | false =>
        rw [if_neg ff_, if_neg ff_, fOf_eq r c l cu lo ins cu hn c0 c1, Option.bind_some, digit_eq, Option.bind_some]
        simp only
        by_cases h1 : (ofI l cu).f1 = true
        · rw [if_pos h1]
          cases hd : digitI a
          · rw [if_neg ff_, if_pos ⟨h1, rfl⟩]
          · rw [if_pos rfl, if_neg (fun h => by cases h.2)]
        · rw [if_neg h1, if_neg (fun h => h1 h.1)]
    by_cases h28 : a = 28
    · rw [if_pos h28, hj, if_pos rfl, if_neg (fun h => h.2.2.1 h28)]
    · rw [if_neg h28, hj]
      by_cases h30 : a = 30
      · rw [if_pos (by simp [h30]), if_neg (fun h => h.2.2.2 h30)]
      · rw [if_neg (by simpa using h30)]
        by_cases h : (ofI l cu).f1 = true ∧ digitI a = false
        · rw [if_pos h, if_pos ⟨h.1, h.2, h28, h30⟩]
        · rw [if_neg h, if_neg (fun h' => h ⟨h'.1, h'.2.1⟩)]
theorem fType_eq (K : Nat) (r c : Int) (l : List S35) (cu : Int) (lo ins : Bool) (a : Int) (hn : l.length ≤ 16383) (c0 : 0 ≤ cu) (c1 : cu < l.length) (a0 : 0 ≤ a) (a1 : a ≤ 255) (hk : l.length + 4 < K) : edit_Type.f K r c l cu lo ins a = some (typeF r c l cu lo ins a) := by
  obtain ⟨K, rfl⟩ : ∃ m, K = m + 1 := ⟨K - 1, by omega⟩
  have hj1 : ∀ b, edit_Type.j1 K a b r c l cu lo ins r c (pushI l cu ins) cu lo ins = if b = true then some (r, c, l, cu, true, ins, some Er.spot, [⟨cu, 10⟩]) else some (r, c, outI l cu ins a, onwardI (outI l cu ins a) cu, lo, ins, none, []) := by
    intro b
    obtain ⟨K, rfl⟩ : ∃ m, K = m + 1 := ⟨K - 1, by omega⟩
    rw [edit_Type.j1]
    cases b with
    | true => rw [if_pos rfl, if_pos rfl, fDeny_eq r c l cu lo ins 10 [] hn, Option.bind_some]
    | false =>
      rw [if_neg ff_, if_neg ff_, if_pos c0, if_pos (by rw [pushI_length]; exact c1), Option.bind_some]
      have := fonward_eq K r c (outI l cu ins a) cu lo ins (by rw [outI_length]; exact hn) c0 (by rw [outI_length]; exact c1) (by omega)
      unfold outI newC at this ⊢
      rw [this, Option.bind_some]
  have hj : ∀ b, edit_Type.j0 (K + 1) a b r c l cu lo ins = some (if b = true then (r, c, l, cu, lo, ins, some (Er.num 3), []) else if lo = true then (r, c, l, cu, lo, ins, some (Er.num 7), []) else if openI l cu = false then (r, c, l, cu, true, ins, some Er.spot, [⟨cu, 8⟩]) else if (ofI l cu).f1 = true ∧ digitI a = false ∧ a ≠ 28 ∧ a ≠ 30 then (r, c, l, cu, true, ins, some Er.spot, [⟨cu, 9⟩]) else if ins = true ∧ freeI l cu < 0 then (r, c, l, cu, true, ins, some Er.spot, [⟨cu, 10⟩]) else (r, c, outI l cu ins a, onwardI (outI l cu ins a) cu, lo, ins, none, [])) := by
    intro b
    rw [edit_Type.j0]
    cases b with
    | true => rw [if_pos rfl, if_pos rfl]
    | false =>
      rw [if_neg ff_, if_neg ff_]
      cases lo with
      | true => rfl
      | false =>
        rw [if_neg ff_, if_neg ff_, ffits_eq K r c l cu false ins a hn c0 c1 (by omega), Option.bind_some]
        simp only
        cases ho : openI l cu with
        | false => rw [if_pos rfl, if_pos rfl, if_neg (show ¬ ((some (Er.num 8)).isNone = true) by simp), show ((some (Er.num 8)).getD ez) = Er.num 8 from rfl, fDeny_eq r c l cu false ins 8 _ hn, Option.bind_some]
        | true =>
          rw [if_neg tf_, if_neg tf_]
          by_cases h9 : (ofI l cu).f1 = true ∧ digitI a = false ∧ a ≠ 28 ∧ a ≠ 30
          · rw [if_pos h9, if_pos h9, if_neg (show ¬ ((some (Er.num 9)).isNone = true) by simp), show ((some (Er.num 9)).getD ez) = Er.num 9 from rfl, fDeny_eq r c l cu false ins 9 _ hn, Option.bind_some]
          · rw [if_neg h9, if_neg h9, if_pos (show ((none : Option Er).isNone = true) by rfl), fModify_eq r c l cu false ins cu hn c0 c1, Option.bind_some]
            simp only
            cases ins with
            | false =>
              rw [if_neg ff_, if_neg (fun h => ff_ h.1)]
              have := hj1 false
              unfold pushI at this
              rw [if_neg ff_] at this
              rw [this, if_neg ff_]
            | true =>
              rw [if_pos rfl, fLine_eq K r c l cu false true cu hn c0 c1 (by omega), Option.bind_some, fpushed_eq K r c l cu false true cu hn c0 c1 ho (by omega), Option.bind_some]
              by_cases hf : freeI l cu < 0
              · rw [if_pos hf, if_pos ⟨rfl, hf⟩]
                have e : ∀ L, edit_Type.j1 K a true r c l cu false true r c L cu false true = some (r, c, l, cu, true, true, some Er.spot, [⟨cu, 10⟩]) := by
                  intro L
                  obtain ⟨K, rfl⟩ : ∃ m, K = m + 1 := ⟨K - 1, by omega⟩
                  rw [edit_Type.j1, if_pos rfl, fDeny_eq r c l cu false true 10 [] hn, Option.bind_some]
                exact e _
              · rw [if_neg hf, if_neg (fun h => hf h.2)]
                have := hj1 false
                unfold pushI at this
                rw [if_pos rfl] at this
                rw [if_neg ff_] at this
                exact this
  unfold edit_Type.f
  have hfin : ∀ b, b = !(letterI a) → edit_Type.j0 (K + 1) a b r c l cu lo ins = some (typeF r c l cu lo ins a) := by
    intro b hb
    subst hb
    rw [hj]
    unfold typeF whyI
    cases letterI a with
    | false => simp
    | true =>
      cases lo with
      | true => simp
      | false =>
        cases openI l cu with
        | false => simp
        | true =>
          by_cases h9 : (ofI l cu).f1 = true ∧ digitI a = false ∧ a ≠ 28 ∧ a ≠ 30
          · simp [h9]
          · by_cases h10 : ins = true ∧ freeI l cu < 0
            · simp only [h9, h10]; simp
            · simp only [h9, h10]; simp
  by_cases e0 : a = 0
  · rw [if_pos e0]; exact hfin true (by subst e0; rfl)
  · rw [if_neg e0, fChar_eq a a0 a1 e0, Option.bind_some]; exact hfin _ rfl
end Go.Proofs.YtggecanpjkpkiaaDoor.P
