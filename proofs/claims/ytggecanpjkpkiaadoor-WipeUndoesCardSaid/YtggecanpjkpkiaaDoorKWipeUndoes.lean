/-
WipeUndoes over plain lists: what its functions come to, and that they answer true. No Go in it.
-/
import Derived.Test.YtggecanpjkpkiaaDoorPx3
import Derived.Test.YtggecanpjkpkiaaDoorPx4
import Derived.Test.YtggecanpjkpkiaaDoorPx5
import Derived.Test.YtggecanpjkpkiaaDoorPx7
import Derived.Test.YtggecanpjkpkiaaDoorPx10
import Derived.Test.YtggecanpjkpkiaaDoorPx14
import Derived.Test.YtggecanpjkpkiaaDoorPx15
import Derived.Test.YtggecanpjkpkiaaDoorPx17
import Derived.Test.YtggecanpjkpkiaaDoorPx13
import Derived.Test.YtggecanpjkpkiaaDoorPx11
import Derived.Test.YtggecanpjkpkiaaDoorPx6
import Derived.Test.YtggecanpjkpkiaaDoorPx20
import Derived.Test.YtggecanpjkpkiaaDoorPx21
import Derived.Test.YtggecanpjkpkiaaDoorPx22
import Derived.Test.YtggecanpjkpkiaaDoorPx8
import Derived.Test.YtggecanpjkpkiaaDoorPx9
import Derived.Test.YtggecanpjkpkiaaDoorO0
import Derived.Test.YtggecanpjkpkiaaDoorPx29
namespace Go.Proofs.YtggecanpjkpkiaaDoor.P
open Go.RowKit Go.Proofs.YtggecanpjkpkiaaDoorW.PrintWords Go.Proofs.YtggecanpjkpkiaaDoorW.PrintLast
set_option linter.unusedVariables false
set_option linter.unusedSimpArgs false

theorem w64 {x : Int} (h : -9223372036854775808 ≤ x ∧ x ≤ 9223372036854775807) : wrap64 x = x := by unfold wrap64; omega

theorem isF_rd (l : List S35) (i : Int) : (rd_T35 l i).f0 = isF l i := rfl
theorem sub_sub_emod (a i : Int) (n : Nat) (i0 : 0 ≤ i) (i1 : i < n) : (a - (a - i) % (n : Int)) % (n : Int) = i := by
  rw [Int.sub_emod, Int.emod_emod_of_dvd _ (Int.dvd_refl _), ← Int.sub_emod, show a - (a - i) = i by omega]
  exact Int.emod_eq_of_lt i0 i1

theorem fBegin_eq (r c : Int) (l : List S35) (cu : Int) (lo ins : Bool) (a : Int) (hn : l.length ≤ 16383) (h0 : 0 ≤ a) (h1 : a < l.length) : field_Begin.f r c l cu lo ins a = some (beginI l a) := by
  unfold field_Begin.f; rw [if_pos hn, if_pos h0, if_pos h1]

theorem no_field (l : List S35) (a : Int) (hp : 0 < l.length) (h0 : 0 ≤ a) (h1 : a < l.length) (h : beginI l a = -1) (i : Int) (i0 : 0 ≤ i) (i1 : i < l.length) : isF l i = false := by
  rcases findW_cases (isF l) (fun j => (a - j) % (l.length : Int)) l.length 0 with ⟨_, hf⟩ | ⟨j, _, _, h3, _, h5⟩
  · -- i is met at j = (a - i) % n
    have hm0 := Int.emod_nonneg (a - i) (b := (l.length : Int)) (by omega)
    have hm1 := Int.emod_lt_of_pos (a - i) (b := (l.length : Int)) (by omega)
    have := hf ((a - i) % (l.length : Int)).toNat (by omega) (by omega)
    simp only [Int.toNat_of_nonneg hm0] at this
    rw [sub_sub_emod a i l.length i0 i1] at this
    exact this
  · rw [beginI, h5] at h
    have := Int.emod_nonneg (a - j) (b := (l.length : Int)) (by omega)
    omega

theorem takeW_congr (p : Int → Bool) (g g' : Nat → Int) (h : ∀ j, g j = g' j) : ∀ c s, takeW p g c s = takeW p g' c s := by
  have : g = g' := funext h
  subst this; intros; rfl
theorem findW_congr (p : Int → Bool) (g g' : Nat → Int) (h : ∀ j, g j = g' j) : ∀ c s, findW p g c s = findW p g' c s := by
  have : g = g' := funext h
  subst this; intros; rfl
theorem fCells_eq (r c : Int) (l : List S35) (cu : Int) (lo ins : Bool) (a : Int) (hn : l.length ≤ 16383) (h0 : 0 ≤ a) (h1 : a < l.length) : field_Cells.f r c l cu lo ins a = some (cellsI l a) := by
  unfold field_Cells.f; rw [if_pos hn, if_pos h0, if_pos h1]
theorem fNext_eq (r c : Int) (l : List S35) (cu : Int) (lo ins : Bool) (a : Int) (hn : l.length ≤ 16383) (h0 : 0 ≤ a) (h1 : a < l.length) : field_Next.f r c l cu lo ins a = some (nextI l a) := by
  unfold field_Next.f; rw [if_pos hn, if_pos h0, if_pos h1]
theorem rd_nat (l : List S35) (i : Nat) (h : i < l.length) : rd_T35 l (i : Int) = l[i] := rd_getElem l i h
/-- a cell's field's attribute -/
def ofI (l : List S35) (a : Int) : S33 := if beginI l a < 0 then ⟨false, false, 0, false⟩ else (rd_T35 l (beginI l a)).f1
/-- a cell is open -/
def openI (l : List S35) (a : Int) : Bool := !isF l a && !(ofI l a).f0
theorem fOf_eq (r c : Int) (l : List S35) (cu : Int) (lo ins : Bool) (a : Int) (hn : l.length ≤ 16383) (h0 : 0 ≤ a) (h1 : a < l.length) : field_Of.f r c l cu lo ins a = some ((ofI l a).f0, (ofI l a).f1, (ofI l a).f2, (ofI l a).f3) := by
  unfold field_Of.f ofI
  rw [fBegin_eq r c l cu lo ins a hn h0 h1, Option.bind_some]
  rcases begin_range l a (by omega) with hb | ⟨hb0, hb1, _⟩
  · rw [hb, if_pos (by decide), if_pos (by decide)]
  · have hlt : ¬ beginI l a < 0 := by omega
    rw [if_neg hlt, if_pos hb0, if_pos hb1, if_neg hlt]
theorem fOpen_eq (r c : Int) (l : List S35) (cu : Int) (lo ins : Bool) (a : Int) (hn : l.length ≤ 16383) (h0 : 0 ≤ a) (h1 : a < l.length) : field_Open.f r c l cu lo ins a = some (openI l a) := by
  unfold field_Open.f openI
  rw [if_pos h0, if_pos h1, fOf_eq r c l cu lo ins a hn h0 h1, isF_rd]
  cases isF l a <;> simp
/-- a cell is right -/
def okC (x : S35) : Bool := if x.f0 = true then (x.f2 == 0 && (decide (0 ≤ x.f1.f2) && decide (x.f1.f2 ≤ 3))) else ((!x.f1.f0 && (!x.f1.f1 && (x.f1.f2 == 0 && (!x.f1.f3)))) && (x.f2 == 0 || (x.f2 == 28 || (x.f2 == 30 || (decide (64 ≤ x.f2) && decide (x.f2 ≤ 254))))))
theorem rCell_eq (x : S35) : shutterref10_Cell.f x.f0 x.f1.f0 x.f1.f1 x.f1.f2 x.f1.f3 x.f2 = some (okC x) := by
  unfold shutterref10_Cell.f okC
  by_cases h : x.f0 = true
  · rw [if_pos h, if_pos h]
    by_cases h2 : x.f2 = 0
    · rw [if_pos h2]
      by_cases h3 : x.f1.f2 ≥ 0
      · rw [if_pos h3]; simp [h2]; intro _; omega
      · rw [if_neg h3]; simp [h2]; intro _; omega
    · rw [if_neg h2]; simp [h2]
  · rw [if_neg h, if_neg h]
    cases hA : (!x.f1.f0 && (!x.f1.f1 && (x.f1.f2 == 0 && (!x.f1.f3))))
    · simp
    · simp only [if_true, Bool.true_and]
      unfold shutterref05_Char.f
      by_cases e0 : x.f2 = 0
      · simp [e0]
      · by_cases e1 : x.f2 = 28
        · simp [e1]
        · by_cases e2 : x.f2 = 30
          · simp [e2]
          · by_cases e3 : x.f2 ≥ 64
            · rw [if_neg e0, if_neg e1, if_neg e2, if_pos e3, beq_eq_false_iff_ne.2 e0, beq_eq_false_iff_ne.2 e1, beq_eq_false_iff_ne.2 e2, decide_eq_true (show 64 ≤ x.f2 from e3)]; rfl
            · rw [if_neg e0, if_neg e1, if_neg e2, if_neg e3, beq_eq_false_iff_ne.2 e0, beq_eq_false_iff_ne.2 e1, beq_eq_false_iff_ne.2 e2, decide_eq_false (show ¬ 64 ≤ x.f2 from e3)]; rfl

/-- a screen is right -/
structure RightI (r c : Int) (l : List S35) (cu : Int) : Prop where
  r1 : 1 ≤ r
  c1 : 1 ≤ c
  r2 : r ≤ 16383
  c2 : c ≤ 16383
  rc : r * c ≤ 16383
  len : (l.length : Int) = r * c
  cu0 : 0 ≤ cu
  cu1 : cu < l.length
  ok : ∀ x ∈ l, okC x = true

theorem rRight_loop (r c : Int) (l : List S35) (cu : Int) (lo ins : Bool) (hn : l.length ≤ 16383) : ∀ (d k i : Nat), d + i = l.length → d < k → shutterref10_Right.l0 k i r c l cu lo ins = some ((l.drop i).all okC)
  | 0, k, i, hd, hk => by
    obtain ⟨k, rfl⟩ : ∃ m, k = m + 1 := ⟨k - 1, by omega⟩
    rw [shutterref10_Right.l0, if_neg (by omega), List.drop_eq_nil_of_le (by omega)]; rfl
  | d + 1, k, i, hd, hk => by
    obtain ⟨k, rfl⟩ : ∃ m, k = m + 1 := ⟨k - 1, by omega⟩
    rw [shutterref10_Right.l0, if_pos (by omega), if_pos (by omega), rd_nat l i (by omega), rCell_eq, Option.bind_some, List.drop_eq_getElem_cons (by omega : i < l.length), List.all_cons]
    cases h : okC l[i]
    · simp
    · simp only [if_true, Bool.true_and]
      rw [w64 (by omega)]
      exact rRight_loop r c l cu lo ins hn d k (i + 1) (by omega) (by omega)
theorem prod_bd {r c : Int} (h1 : 1 ≤ r) (h2 : r ≤ 16383) (h3 : 1 ≤ c) (h4 : c ≤ 16383) : 1 ≤ r * c ∧ r * c ≤ 268402689 := by
  constructor
  · have := Int.mul_le_mul h1 h3 (by omega) (by omega); omega
  · have := Int.mul_le_mul h2 h4 (by omega) (by omega); omega
theorem rRight_eq (k : Nat) (r c : Int) (l : List S35) (cu : Int) (lo ins : Bool) (hk : l.length + 1 < k) (hn : l.length ≤ 16383) : ∃ b, shutterref10_Right.f k r c l cu lo ins = some b ∧ (b = true ↔ RightI r c l cu) := by
  obtain ⟨k, rfl⟩ : ∃ m, k = m + 1 := ⟨k - 1, by omega⟩
  unfold shutterref10_Right.f shutterref10_Sized.f
  have no : (¬ RightI r c l cu) → ∃ b, some false = some b ∧ (b = true ↔ RightI r c l cu) := fun h => ⟨false, rfl, by simp [h]⟩
  have jt : shutterref10_Right.j0 (k + 1) true r c l cu lo ins = some false := by rw [shutterref10_Right.j0, if_pos rfl]
  by_cases h1 : r ≥ 1
  · rw [if_pos h1]
    by_cases h2 : c ≥ 1
    · rw [if_pos h2]
      by_cases h3 : r ≤ 16383
      · rw [if_pos h3]
        by_cases h4 : c ≤ 16383
        · have hb := prod_bd h1 h3 h2 h4
          rw [if_pos h4, Option.bind_some, w64 (by omega)]
          by_cases h5 : r * c ≤ 16383
          · rw [if_pos (decide_eq_true h5)]
            by_cases h6 : (l.length : Int) = r * c
            · rw [if_pos h6]
              by_cases h7 : cu < 0
              · rw [if_pos h7, jt]; exact no (fun h => by have := h.cu0; omega)
              · rw [if_neg h7, shutterref10_Right.j0]
                by_cases h8 : cu ≥ l.length
                · rw [if_pos (decide_eq_true h8)]; exact no (fun h => by have := h.cu1; omega)
                · rw [if_neg (by simp; omega)]
                  have := rRight_loop r c l cu lo ins hn l.length k 0 rfl (by omega)
                  rw [show ((0 : Nat) : Int) = 0 from rfl] at this
                  rw [this, List.drop_zero]
                  refine ⟨_, rfl, ?_⟩
                  rw [List.all_eq_true]
                  exact ⟨fun h => ⟨h1, h2, h3, h4, h5, h6, by omega, by omega, h⟩, fun h => h.ok⟩
            · rw [if_neg h6, jt]; exact no (fun h => h6 h.len)
          · rw [if_neg (by simp; omega), jt]; exact no (fun h => h5 h.rc)
        · rw [if_neg h4, Option.bind_some, if_neg (by decide), jt]; exact no (fun h => h4 h.c2)
      · rw [if_neg h3, Option.bind_some, if_neg (by decide), jt]; exact no (fun h => h3 h.r2)
    · rw [if_neg h2, Option.bind_some, if_neg (by decide), jt]; exact no (fun h => h2 h.c1)
  · rw [if_neg h1, Option.bind_some, if_neg (by decide), jt]; exact no (fun h => h1 h.r1)
theorem rFew_eq (k : Nat) (r c : Int) (l : List S35) (cu : Int) (lo ins : Bool) (hk : 202 < k) : ∃ b, shutterref10_Few.f k r c l cu lo ins = some b ∧ (b = true ↔ l.length ≤ 200 ∧ RightI r c l cu) := by
  unfold shutterref10_Few.f
  by_cases h : (l.length : Int) ≤ 200
  · obtain ⟨b, hb, hi⟩ := rRight_eq k r c l cu lo ins (by omega) (by omega)
    rw [if_pos h, hb, Option.bind_some]
    exact ⟨b, rfl, hi.trans ⟨fun x => ⟨by omega, x⟩, fun x => x.2⟩⟩
  · rw [if_neg h]; exact ⟨false, rfl, by simp; intro h'; omega⟩
end Go.Proofs.YtggecanpjkpkiaaDoor.P
namespace Go.Proofs.YtggecanpjkpkiaaDoor.P
open Go.RowKit Go.Proofs.YtggecanpjkpkiaaDoorW.PrintWords Go.Proofs.YtggecanpjkpkiaaDoorW.PrintLast
set_option linter.unusedVariables false
set_option linter.unusedSimpArgs false

theorem mod_eq (k : Nat) (x : Int) (n : Nat) (hk : 1 < k) (h0 : 0 < n) (hn : n ≤ 16383) (hx : -(n : Int) ≤ x) (hx1 : x ≤ 100000) : shutterref11_mod.f k x n = some (x % (n : Int)) := by
  unfold shutterref11_mod.f
  obtain ⟨k, rfl⟩ : ∃ m, k = m + 2 := ⟨k - 2, by omega⟩
  have hz : ¬ (n : Int) = 0 := by omega
  by_cases hx0 : x < 0
  · rw [shutterref11_mod.l0, if_pos hx0, w64 (by omega), shutterref11_mod.l0, if_neg (by omega), if_neg hz, Int.tmod_eq_emod_of_nonneg (by omega), Int.add_emod_right]
  · rw [shutterref11_mod.l0, if_neg hx0, if_neg hz, Int.tmod_eq_emod_of_nonneg (by omega)]

theorem mod_eq2 (k : Nat) (x : Int) (n : Nat) (hk : 2 < k) (h0 : 0 < n) (hn : n ≤ 16383) (hx : -(n : Int) - 1 ≤ x) (hx1 : x ≤ 100000) : shutterref11_mod.f k x n = some (x % (n : Int)) := by
  by_cases hx2 : -(n : Int) ≤ x
  · exact mod_eq k x n (by omega) h0 hn hx2 hx1
  · unfold shutterref11_mod.f
    obtain ⟨k, rfl⟩ : ∃ m, k = m + 1 := ⟨k - 1, by omega⟩
    rw [shutterref11_mod.l0, if_pos (by omega), w64 (by omega)]
    have := mod_eq k (x + n) n (by omega) h0 hn (by omega) (by omega)
    unfold shutterref11_mod.f at this
    rw [this, Int.add_emod_right]
theorem rBegin_loop (r c : Int) (l : List S35) (cu : Int) (lo ins : Bool) (a : Int) (hn : l.length ≤ 16383) (h0 : 0 ≤ a) (h1 : a < l.length) : ∀ (d k i : Nat), d + i = l.length → d + 2 < k → shutterref11_Begin.l0 k a i r c l cu lo ins = some (findW (isF l) (fun j => (a - j) % (l.length : Int)) d i)
  | 0, k, i, hd, hk => by
    obtain ⟨k, rfl⟩ : ∃ m, k = m + 1 := ⟨k - 1, by omega⟩
    rw [shutterref11_Begin.l0, if_neg (by omega)]; rfl
  | d + 1, k, i, hd, hk => by
    obtain ⟨k, rfl⟩ : ∃ m, k = m + 1 := ⟨k - 1, by omega⟩
    rw [shutterref11_Begin.l0, if_pos (by omega), w64 (by omega), mod_eq k _ _ (by omega) (by omega) hn (by omega) (by omega), Option.bind_some, if_pos (Int.emod_nonneg _ (by omega)), if_pos (Int.emod_lt_of_pos _ (by omega)), findW, isF_rd]
    show _ = some (if isF l ((a - (i : Int)) % (l.length : Int)) = true then (a - (i : Int)) % (l.length : Int) else _)
    by_cases hf : isF l ((a - i) % (l.length : Int)) = true
    · rw [if_pos hf, if_pos hf]
    · rw [if_neg hf, if_neg hf, w64 (by omega)]
      exact rBegin_loop r c l cu lo ins a hn h0 h1 d k (i + 1) (by omega) (by omega)
theorem rBegin_eq (k : Nat) (r c : Int) (l : List S35) (cu : Int) (lo ins : Bool) (a : Int) (hn : l.length ≤ 16383) (h0 : 0 ≤ a) (h1 : a < l.length) (hk : l.length + 2 < k) : shutterref11_Begin.f k r c l cu lo ins a = some (beginI l a) :=
  rBegin_loop r c l cu lo ins a hn h0 h1 l.length k 0 rfl hk
theorem rCells_loop (r c : Int) (l : List S35) (cu : Int) (lo ins : Bool) (b : Int) (hn : l.length ≤ 16383) (h0 : -1 ≤ b) (h1 : b < l.length) : ∀ (d k i : Nat) (out : List Int), d + i = l.length → d + 2 < k → out.length ≤ i → shutterref11_Cells.l0 k out b ((i : Int) + 1) r c l cu lo ins = some (out ++ takeW (isF l) (fun j => (b + 1 + j) % (l.length : Int)) d i)
  | 0, k, i, out, hd, hk, ho => by
    obtain ⟨k, rfl⟩ : ∃ m, k = m + 1 := ⟨k - 1, by omega⟩
    rw [shutterref11_Cells.l0, if_neg (by omega)]; simp [takeW]
  | d + 1, k, i, out, hd, hk, ho => by
    obtain ⟨k, rfl⟩ : ∃ m, k = m + 1 := ⟨k - 1, by omega⟩
    rw [shutterref11_Cells.l0, if_pos (by omega), w64 (by omega), mod_eq k _ _ (by omega) (by omega) hn (by omega) (by omega), Option.bind_some, if_pos (Int.emod_nonneg _ (by omega)), if_pos (Int.emod_lt_of_pos _ (by omega)), takeW, isF_rd]
    show _ = some (out ++ (if isF l ((b + 1 + (i : Int)) % (l.length : Int)) = true then _ else ((b + 1 + (i : Int)) % (l.length : Int)) :: _))
    have e : (b + ((i : Int) + 1)) % (l.length : Int) = (b + 1 + i) % (l.length : Int) := by congr 1; omega
    rw [e]
    by_cases hf : isF l ((b + 1 + i) % (l.length : Int)) = true
    · rw [if_pos hf, if_pos hf, List.append_nil]
    · rw [if_neg hf, if_neg hf, if_pos (by omega), w64 (by omega)]
      have := rCells_loop r c l cu lo ins b hn h0 h1 d k (i + 1) (out ++ [(b + 1 + i) % (l.length : Int)]) (by omega) (by omega) (by simp; omega)
      rw [Int.natCast_add] at this
      rw [show (i : Int) + 1 + 1 = ((i : Int) + ((1 : Nat) : Int)) + 1 by omega, this, List.append_assoc]; rfl
theorem rCells_eq (k : Nat) (r c : Int) (l : List S35) (cu : Int) (lo ins : Bool) (a : Int) (hn : l.length ≤ 16383) (h0 : 0 ≤ a) (h1 : a < l.length) (hk : l.length + 2 < k) : shutterref11_Cells.f k r c l cu lo ins a = some (cellsI l a) := by
  unfold shutterref11_Cells.f
  rw [rBegin_eq k r c l cu lo ins a hn h0 h1 hk, Option.bind_some]
  have hb : -1 ≤ beginI l a ∧ beginI l a < l.length := by rcases begin_range l a (by omega) with h | ⟨h, h', _⟩ <;> omega
  have := rCells_loop r c l cu lo ins (beginI l a) hn hb.1 hb.2 l.length k 0 [] rfl hk (Nat.le_refl _)
  rw [show ((0 : Nat) : Int) + 1 = 1 from rfl] at this
  rw [this, List.nil_append]
  congr 1
  unfold cellsI
  rcases begin_range l a (by omega) with hb | ⟨hb0, hb1, _⟩
  · rw [hb, if_pos (by decide)]
    have hg : ∀ j, j < l.length → (-1 + 1 + (j : Int)) % (l.length : Int) = j := fun j hj => by rw [show (-1 + 1 + (j : Int)) = j by omega]; exact Int.emod_eq_of_lt (by omega) (by omega)
    have := takeW_eq (isF l) (fun j => (-1 + 1 + (j : Int)) % (l.length : Int)) l.length 0 l.length (Nat.le_refl _) (fun i hi => by
      rw [Nat.zero_add]; show isF l ((-1 + 1 + (i : Int)) % (l.length : Int)) = false
      rw [hg i hi]; exact no_field l a (by omega) h0 h1 hb i (by omega) (by omega)) (.inl rfl)
    rw [this]
    unfold uptoI
    refine List.map_congr_left fun j hj => ?_
    rw [Nat.zero_add]; exact hg j (List.mem_range.1 hj)
  · rw [if_neg (by omega)]
    refine takeW_congr _ _ _ (fun j => ?_) _ _
    unfold wayI sgnI; simp
theorem rOf_eq (k : Nat) (r c : Int) (l : List S35) (cu : Int) (lo ins : Bool) (a : Int) (hn : l.length ≤ 16383) (h0 : 0 ≤ a) (h1 : a < l.length) (hk : l.length + 2 < k) : shutterref11_Of.f k r c l cu lo ins a = some ((ofI l a).f0, (ofI l a).f1, (ofI l a).f2, (ofI l a).f3) := by
  unfold shutterref11_Of.f ofI
  rw [rBegin_eq k r c l cu lo ins a hn h0 h1 hk, Option.bind_some]
  rcases begin_range l a (by omega) with hb | ⟨hb0, hb1, _⟩
  · rw [hb, if_pos (by decide), if_pos (by decide)]
  · have hlt : ¬ beginI l a < 0 := by omega
    rw [if_neg hlt, if_pos hb0, if_pos hb1, if_neg hlt]
theorem rOpen_eq (k : Nat) (r c : Int) (l : List S35) (cu : Int) (lo ins : Bool) (a : Int) (hn : l.length ≤ 16383) (h0 : 0 ≤ a) (h1 : a < l.length) (hk : l.length + 2 < k) : shutterref11_Open.f k r c l cu lo ins a = some (openI l a) := by
  unfold shutterref11_Open.f openI
  rw [if_pos h0, if_pos h1, rOf_eq k r c l cu lo ins a hn h0 h1 hk, isF_rd]
  cases isF l a <;> simp

theorem rfirst_eq (k : Nat) (r c : Int) (l : List S35) (cu : Int) (lo ins : Bool) (i : Int) (hn : l.length ≤ 16383) (h0 : 0 ≤ i) (h1 : i < l.length) (hk : 1 < k) : shutterref11_first.f k r c l cu lo ins i = some (if entI l i = true then onI l.length i 1 else -1) := by
  have hp : 0 < l.length := by omega
  unfold shutterref11_first.f
  rw [w64 (by omega), mod_eq k _ _ hk hp hn (by omega) (by omega), Option.bind_some, if_pos h0, if_pos h1, isF_rd, if_pos (Int.emod_nonneg _ (by omega)), if_pos (Int.emod_lt_of_pos _ (by omega)), isF_rd]
  unfold entI protI
  show _ = some (if (isF l i && !(rd_T35 l i).f1.f0 && !isF l ((i + 1) % (l.length : Int))) = true then (i + 1) % (l.length : Int) else -1)
  cases isF l i <;> cases (rd_T35 l i).f1.f0 <;> cases isF l ((i + 1) % (l.length : Int)) <;> rfl

theorem rNext_loop (r c : Int) (l : List S35) (cu : Int) (lo ins : Bool) (a : Int) (hn : l.length ≤ 16383) (h0 : 0 ≤ a) (h1 : a < l.length) : ∀ (d k i : Nat), d + i = l.length → d + 2 < k → shutterref11_Next.l0 k a ((i : Int) + 1) r c l cu lo ins = some (if findW (entI l) (fun j => (a + (j + 1)) % (l.length : Int)) d i < 0 then -1 else onI l.length (findW (entI l) (fun j => (a + (j + 1)) % (l.length : Int)) d i) 1)
  | 0, k, i, hd, hk => by
    obtain ⟨k, rfl⟩ : ∃ m, k = m + 1 := ⟨k - 1, by omega⟩
    rw [shutterref11_Next.l0, if_neg (by omega)]; rfl
  | d + 1, k, i, hd, hk => by
    obtain ⟨k, rfl⟩ : ∃ m, k = m + 1 := ⟨k - 1, by omega⟩
    have hp : 0 < l.length := by omega
    have m0 := Int.emod_nonneg (a + ((i : Int) + 1)) (b := (l.length : Int)) (by omega)
    have m1 := Int.emod_lt_of_pos (a + ((i : Int) + 1)) (b := (l.length : Int)) (by omega)
    rw [shutterref11_Next.l0, if_pos (by omega), w64 (by omega), mod_eq k _ _ (by omega) hp hn (by omega) (by omega), Option.bind_some, rfirst_eq k r c l cu lo ins _ hn m0 m1 (by omega), Option.bind_some]
    have hF : findW (entI l) (fun j => (a + (j + 1)) % (l.length : Int)) (d + 1) i = if entI l ((a + ((i : Int) + 1)) % (l.length : Int)) = true then (a + ((i : Int) + 1)) % (l.length : Int) else findW (entI l) (fun j => (a + (j + 1)) % (l.length : Int)) d (i + 1) := rfl
    rw [hF]
    by_cases hf : entI l ((a + ((i : Int) + 1)) % (l.length : Int)) = true
    · rw [if_pos hf, if_pos hf, if_pos (onI_nonneg hp _ _), if_neg (by omega)]
    · rw [if_neg hf, if_neg hf, if_neg (by decide), w64 (by omega)]
      have := rNext_loop r c l cu lo ins a hn h0 h1 d k (i + 1) (by omega) (by omega)
      rw [Int.natCast_add] at this
      exact this
theorem rNext_eq (k : Nat) (r c : Int) (l : List S35) (cu : Int) (lo ins : Bool) (a : Int) (hn : l.length ≤ 16383) (h0 : 0 ≤ a) (h1 : a < l.length) (hk : l.length + 2 < k) : shutterref11_Next.f k r c l cu lo ins a = some (nextI l a) := by
  have := rNext_loop r c l cu lo ins a hn h0 h1 l.length k 0 rfl hk
  rw [show ((0 : Nat) : Int) + 1 = 1 from rfl] at this
  unfold shutterref11_Next.f
  rw [this, nextI, firstI]
  rw [findW_congr (entI l) (fun j => (a + (j + 1)) % (l.length : Int)) (wayI l.length a 1) (fun j => by unfold wayI sgnI; simp; congr 1; omega)]
theorem rInts_loop (x : List Int) (hn : x.length ≤ 100000) : ∀ (d k i : Nat), d + i = x.length → d < k → shutterref10_Ints.l0 k x x i = some true
  | 0, k, i, hd, hk => by
    obtain ⟨k, rfl⟩ : ∃ m, k = m + 1 := ⟨k - 1, by omega⟩
    rw [shutterref10_Ints.l0, if_neg (by omega)]
  | d + 1, k, i, hd, hk => by
    obtain ⟨k, rfl⟩ : ∃ m, k = m + 1 := ⟨k - 1, by omega⟩
    rw [shutterref10_Ints.l0, if_pos (by omega), if_pos (by omega), if_pos (by omega), if_pos rfl, w64 (by omega)]
    exact rInts_loop x hn d k (i + 1) (by omega) (by omega)
theorem rInts_same (k : Nat) (x : List Int) (hn : x.length ≤ 100000) (hk : x.length < k) : shutterref10_Ints.f k x x = some true := by
  unfold shutterref10_Ints.f
  rw [if_pos rfl]
  exact rInts_loop x hn x.length k 0 rfl hk

end Go.Proofs.YtggecanpjkpkiaaDoor.P
namespace Go.Proofs.YtggecanpjkpkiaaDoor.P
open Go.RowKit Go.Proofs.YtggecanpjkpkiaaDoorW.PrintWords Go.Proofs.YtggecanpjkpkiaaDoorW.PrintLast
set_option linter.unusedVariables false
set_option linter.unusedSimpArgs false

theorem cell_ext {x y : S35} (h0 : x.f0 = y.f0) (h1 : x.f1.f0 = y.f1.f0) (h2 : x.f1.f1 = y.f1.f1) (h3 : x.f1.f2 = y.f1.f2) (h4 : x.f1.f3 = y.f1.f3) (h5 : x.f2 = y.f2) : x = y := by
  obtain ⟨x0, ⟨x1, x2, x3, x4⟩, x5⟩ := x
  obtain ⟨y0, ⟨y1, y2, y3, y4⟩, y5⟩ := y
  simp only at h0 h1 h2 h3 h4 h5
  subst h0 h1 h2 h3 h4 h5
  rfl
theorem rSame_loop (r c : Int) (l : List S35) (cu : Int) (lo ins : Bool) (r' c' : Int) (l' : List S35) (cu' : Int) (lo' ins' : Bool) (hn : l.length ≤ 16383) (hl : l.length = l'.length) : ∀ (d k i : Nat), d + i = l.length → d < k → ∃ b, shutterref10_Same.l0 k i r c l cu lo ins r' c' l' cu' lo' ins' = some b ∧ (b = true ↔ l.drop i = l'.drop i)
  | 0, k, i, hd, hk => by
    obtain ⟨k, rfl⟩ : ∃ m, k = m + 1 := ⟨k - 1, by omega⟩
    rw [shutterref10_Same.l0, if_neg (by omega), List.drop_eq_nil_of_le (by omega), List.drop_eq_nil_of_le (by omega)]
    exact ⟨true, rfl, by simp⟩
  | d + 1, k, i, hd, hk => by
    obtain ⟨k, rfl⟩ : ∃ m, k = m + 1 := ⟨k - 1, by omega⟩
    rw [shutterref10_Same.l0, if_pos (by omega), if_pos (by omega), if_pos (by omega), rd_nat l i (by omega), rd_nat l' i (by omega), List.drop_eq_getElem_cons (by omega : i < l.length), List.drop_eq_getElem_cons (by omega : i < l'.length)]
    generalize l[i]'(by omega) = x
    generalize l'[i]'(by omega) = y
    by_cases h : (!(x.f0 == y.f0) || ((!(x.f1.f0 == y.f1.f0) || (!(x.f1.f1 == y.f1.f1) || (!(x.f1.f2 == y.f1.f2) || (!(x.f1.f3 == y.f1.f3))))) || (!(x.f2 == y.f2)))) = true
    · rw [if_pos h]
      refine ⟨false, rfl, ?_⟩
      simp only [Bool.false_eq_true, false_iff]
      intro e
      obtain rfl := (List.cons.inj e).1
      simp at h
    · rw [if_neg h, w64 (by omega)]
      simp only [Bool.or_eq_true, Bool.not_eq_true', beq_eq_false_iff_ne, not_or, Decidable.not_not, ne_eq] at h
      obtain ⟨h0, ⟨h1, h2, h3, h4⟩, h5⟩ := h
      obtain rfl := cell_ext h0 h1 h2 h3 h4 h5
      obtain ⟨b, hb, hi⟩ := rSame_loop r c l cu lo ins r' c' l' cu' lo' ins' hn hl d k (i + 1) (by omega) (by omega)
      refine ⟨b, hb, hi.trans ?_⟩
      constructor
      · intro e; rw [e]
      · intro e; exact (List.cons.inj e).2
theorem rSame_eq (k : Nat) (r c : Int) (l : List S35) (cu : Int) (lo ins : Bool) (r' c' : Int) (l' : List S35) (cu' : Int) (lo' ins' : Bool) (hn : l.length ≤ 16383) (hk : l.length + 1 < k) : ∃ b, shutterref10_Same.f k r c l cu lo ins r' c' l' cu' lo' ins' = some b ∧ (b = true ↔ r = r' ∧ c = c' ∧ l = l' ∧ cu = cu' ∧ lo = lo' ∧ ins = ins') := by
  obtain ⟨k, rfl⟩ : ∃ m, k = m + 1 := ⟨k - 1, by omega⟩
  unfold shutterref10_Same.f
  have jt : shutterref10_Same.j0 (k + 1) true r c l cu lo ins r' c' l' cu' lo' ins' = some false := by rw [shutterref10_Same.j0, if_pos rfl]
  have no : (¬ (r = r' ∧ c = c' ∧ l = l' ∧ cu = cu' ∧ lo = lo' ∧ ins = ins')) → ∃ b, some false = some b ∧ (b = true ↔ r = r' ∧ c = c' ∧ l = l' ∧ cu = cu' ∧ lo = lo' ∧ ins = ins') := fun h => ⟨false, rfl, by simp only [Bool.false_eq_true, false_iff]; exact h⟩
  by_cases h1 : r = r'
  · rw [if_pos h1]
    by_cases h2 : c = c'
    · rw [if_pos h2]
      by_cases h3 : cu = cu'
      · rw [if_pos h3]
        by_cases h4 : lo = lo'
        · rw [if_neg (by simp [h4])]
          by_cases h5 : ins = ins'
          · rw [if_neg (by simp [h5]), shutterref10_Same.j0]
            by_cases h6 : l.length = l'.length
            · rw [if_neg (by simp [h6])]
              obtain ⟨b, hb, hi⟩ := rSame_loop r c l cu lo ins r' c' l' cu' lo' ins' hn h6 l.length k 0 rfl (by omega)
              rw [show ((0 : Nat) : Int) = 0 from rfl] at hb
              rw [hb]
              refine ⟨b, rfl, hi.trans ?_⟩
              rw [List.drop_zero, List.drop_zero]
              exact ⟨fun e => ⟨h1, h2, e, h3, h4, h5⟩, fun e => e.2.2.1⟩
            · rw [if_pos (by simp; omega)]; exact no (fun h => h6 (by rw [h.2.2.1]))
          · rw [if_pos (by simpa using h5), jt]; exact no (fun h => h5 h.2.2.2.2.2)
        · rw [if_pos (by simpa using h4), jt]; exact no (fun h => h4 h.2.2.2.2.1)
      · rw [if_neg h3, jt]; exact no (fun h => h3 h.2.2.2.1)
    · rw [if_neg h2, jt]; exact no (fun h => h2 h.2.1)
  · rw [if_neg h1, jt]; exact no (fun h => h1 h.1)
theorem rSame_self (k : Nat) (r c : Int) (l : List S35) (cu : Int) (lo ins : Bool) (hn : l.length ≤ 16383) (hk : l.length + 1 < k) : shutterref10_Same.f k r c l cu lo ins r c l cu lo ins = some true := by
  obtain ⟨b, hb, hi⟩ := rSame_eq k r c l cu lo ins r c l cu lo ins hn hk
  rw [hb, hi.2 ⟨rfl, rfl, rfl, rfl, rfl, rfl⟩]
theorem rCopy_eq (r c : Int) (l : List S35) (cu : Int) (lo ins : Bool) (hn : l.length ≤ 16383) : shutterref10_Copy.f r c l cu lo ins = some (r, c, l, cu, lo, ins) := by
  unfold shutterref10_Copy.f
  simp only [Option.bind_some, List.length_nil, List.nil_append]
  rw [if_pos (by omega)]

end Go.Proofs.YtggecanpjkpkiaaDoor.P
namespace Go.Proofs.YtggecanpjkpkiaaDoor.P
open Go.RowKit Go.Proofs.YtggecanpjkpkiaaDoorW.PrintWords Go.Proofs.YtggecanpjkpkiaaDoorW.PrintLast
set_option linter.unusedVariables false
set_option linter.unusedSimpArgs false

/-- firstI, told: none on the way, or the first of them. -/
theorem firstI_cases (l : List S35) (g : Nat → Int) (hg : ∀ j, 0 ≤ g j) (hp : 0 < l.length) : (firstI l g = -1 ∧ ∀ j, j < l.length → entI l (g j) = false) ∨ ∃ j, j < l.length ∧ entI l (g j) = true ∧ (∀ i, i < j → entI l (g i) = false) ∧ firstI l g = onI l.length (g j) 1 := by
  unfold firstI
  rcases findW_cases (entI l) g l.length 0 with ⟨h1, h2⟩ | ⟨j, _, h2, h3, h4, h5⟩
  · rw [h1]; exact .inl ⟨rfl, fun j hj => h2 j (by omega) (by omega)⟩
  · rw [h5, if_neg (by have := hg j; omega)]
    exact .inr ⟨j, by omega, h3, fun i hi => h4 i (by omega) hi, rfl⟩
theorem firstI_at (l : List S35) (g : Nat → Int) (hg : ∀ j, 0 ≤ g j) (j : Nat) (hj : j < l.length) (h1 : entI l (g j) = true) (h2 : ∀ i, i < j → entI l (g i) = false) : firstI l g = onI l.length (g j) 1 := by
  unfold firstI
  rw [findW_eq (entI l) g l.length 0 j (by omega) (by omega) h1 (fun i _ hi => h2 i hi), if_neg (by have := hg j; omega)]
theorem way_nn (n : Nat) (hp : 0 < n) (a d : Int) (j : Nat) : 0 ≤ wayI n a d j := wayI_nonneg hp a d j
/-- Each cell is met on a way of as many steps as there are cells: forth .. -/
theorem way_meets (n : Nat) (hp : 0 < n) (a : Int) (x : Int) (x0 : 0 ≤ x) (x1 : x < n) : ∃ j, j < n ∧ wayI n a 1 j = x := by
  refine ⟨((x - a - 1) % (n : Int)).toNat, ?_, ?_⟩
  · have := Int.emod_lt_of_pos (x - a - 1) (b := (n : Int)) (by omega)
    have := Int.emod_nonneg (x - a - 1) (b := (n : Int)) (by omega)
    omega
  · have h0 := Int.emod_nonneg (x - a - 1) (b := (n : Int)) (by omega)
    unfold wayI sgnI
    simp only [show ¬ (1 : Int) < 0 by decide, if_false, Int.one_mul, Int.toNat_of_nonneg h0]
    rw [Int.add_emod, Int.emod_emod_of_dvd _ (Int.dvd_refl _), ← Int.add_emod, show a + 1 + (x - a - 1) = x by omega]
    exact Int.emod_eq_of_lt x0 x1
/-- .. and back. -/
theorem way_meets2 (n : Nat) (hp : 0 < n) (a : Int) (x : Int) (x0 : 0 ≤ x) (x1 : x < n) : ∃ j, j < n ∧ wayI n a (-2) j = x := by
  refine ⟨((a - 2 - x) % (n : Int)).toNat, ?_, ?_⟩
  · have := Int.emod_lt_of_pos (a - 2 - x) (b := (n : Int)) (by omega)
    have := Int.emod_nonneg (a - 2 - x) (b := (n : Int)) (by omega)
    omega
  · have h0 := Int.emod_nonneg (a - 2 - x) (b := (n : Int)) (by omega)
    unfold wayI sgnI
    simp only [show (-2 : Int) < 0 by decide, if_true, Int.toNat_of_nonneg h0]
    rw [show a + -2 + -1 * ((a - 2 - x) % (n : Int)) = (a - 2) - (a - 2 - x) % (n : Int) by omega]
    have := sub_sub_emod (a - 2) x n x0 x1
    exact this
theorem no_ent_next (l : List S35) (a : Int) (hp : 0 < l.length) : nextI l a = -1 ↔ ∀ x : Int, 0 ≤ x → x < l.length → entI l x = false := by
  unfold nextI
  constructor
  · intro h x x0 x1
    obtain ⟨j, hj, rfl⟩ := way_meets l.length hp a x x0 x1
    rcases firstI_cases l (wayI l.length a 1) (way_nn _ hp a 1) hp with ⟨_, h2⟩ | ⟨i, _, _, _, h5⟩
    · exact h2 j hj
    · rw [h5] at h; have := onI_nonneg hp (wayI l.length a 1 i) 1; omega
  · intro h
    rcases firstI_cases l (wayI l.length a 1) (way_nn _ hp a 1) hp with ⟨h1, _⟩ | ⟨i, _, h3, _, _⟩
    · exact h1
    · rw [h _ (wayI_nonneg hp _ _ _) (wayI_lt hp _ _ _)] at h3; cases h3
theorem no_ent_prev (l : List S35) (a : Int) (hp : 0 < l.length) : prevI l a = -1 ↔ ∀ x : Int, 0 ≤ x → x < l.length → entI l x = false := by
  unfold prevI
  constructor
  · intro h x x0 x1
    obtain ⟨j, hj, rfl⟩ := way_meets2 l.length hp a x x0 x1
    rcases firstI_cases l (wayI l.length a (-2)) (way_nn _ hp a (-2)) hp with ⟨_, h2⟩ | ⟨i, _, _, _, h5⟩
    · exact h2 j hj
    · rw [h5] at h; have := onI_nonneg hp (wayI l.length a (-2) i) 1; omega
  · intro h
    rcases firstI_cases l (wayI l.length a (-2)) (way_nn _ hp a (-2)) hp with ⟨h1, _⟩ | ⟨i, _, h3, _, _⟩
    · exact h1
    · rw [h _ (wayI_nonneg hp _ _ _) (wayI_lt hp _ _ _)] at h3; cases h3
/-- What Next tells, if it tells one: the cell behind one where an open field begins. -/
theorem next_ent (l : List S35) (a : Int) (hp : 0 < l.length) (h : nextI l a ≠ -1) : ∃ e : Int, 0 ≤ e ∧ e < l.length ∧ entI l e = true ∧ nextI l a = onI l.length e 1 := by
  unfold nextI at h ⊢
  rcases firstI_cases l (wayI l.length a 1) (way_nn _ hp a 1) hp with ⟨h1, _⟩ | ⟨i, _, h3, _, h5⟩
  · exact absurd h1 h
  · exact ⟨_, wayI_nonneg hp _ _ _, wayI_lt hp _ _ _, h3, h5⟩
theorem prev_ent (l : List S35) (a : Int) (hp : 0 < l.length) (h : prevI l a ≠ -1) : ∃ e : Int, 0 ≤ e ∧ e < l.length ∧ entI l e = true ∧ prevI l a = onI l.length e 1 := by
  unfold prevI at h ⊢
  rcases firstI_cases l (wayI l.length a (-2)) (way_nn _ hp a (-2)) hp with ⟨h1, _⟩ | ⟨i, _, h3, _, h5⟩
  · exact absurd h1 h
  · exact ⟨_, wayI_nonneg hp _ _ _, wayI_lt hp _ _ _, h3, h5⟩
theorem ent_parts {l : List S35} {e : Int} (h : entI l e = true) : isF l e = true ∧ protI l e = false ∧ isF l (onI l.length e 1) = false := by
  unfold entI at h
  rw [Bool.and_eq_true, Bool.and_eq_true] at h
  exact ⟨h.1.1, by simpa using h.1.2, by simpa using h.2⟩
/-- the field of the cell behind one with a field -/
theorem begin_behind (l : List S35) (e : Int) (e0 : 0 ≤ e) (e1 : e < l.length) (hF : isF l e = true) (hN : isF l (onI l.length e 1) = false) : beginI l (onI l.length e 1) = e := by
  have hp : 0 < l.length := by omega
  have hn := onI_nonneg hp e 1
  have hlt := onI_lt hp e 1
  have hw : wayI l.length (onI l.length e 1) (-1) 0 = e := by
    rw [wayI_zero]; unfold onI
    rw [Int.emod_add_emod, show e + 1 + -1 = e by omega]; exact Int.emod_eq_of_lt e0 e1
  have := begin_way l (onI l.length e 1) hn hlt hN 0 hp (by rw [hw]; exact hF) (fun i hi => by omega)
  rw [this, hw]
/-- the first cell of an open field: it is open, and its field's cells begin with it -/
theorem first_isopen (l : List S35) (e : Int) (e0 : 0 ≤ e) (e1 : e < l.length) (h : entI l e = true) : openI l (onI l.length e 1) = true := by
  obtain ⟨hF, hP, hN⟩ := ent_parts h
  have hb := begin_behind l e e0 e1 hF hN
  unfold openI ofI
  rw [hb, if_neg (by omega), hN]
  show (!false && !(rd_T35 l e).f1.f0) = true
  have : (rd_T35 l e).f1.f0 = false := hP
  rw [this]; rfl
theorem first_open (l : List S35) (e : Int) (e0 : 0 ≤ e) (e1 : e < l.length) (h : entI l e = true) : openI l (onI l.length e 1) = true ∧ ∃ t, cellsI l (onI l.length e 1) = onI l.length e 1 :: t := by
  obtain ⟨hF, hP, hN⟩ := ent_parts h
  have hp : 0 < l.length := by omega
  have hb := begin_behind l e e0 e1 hF hN
  constructor
  · unfold openI ofI
    rw [hb, if_neg (by omega), hN]
    show (!false && !(rd_T35 l e).f1.f0) = true
    have : (rd_T35 l e).f1.f0 = false := hP
    rw [this]; rfl
  · unfold cellsI
    rw [hb, if_neg (by omega)]
    obtain ⟨m, hm⟩ : ∃ m, l.length = m + 1 := ⟨l.length - 1, by omega⟩
    have hw : wayI l.length e 1 0 = onI l.length e 1 := wayI_zero _ _ _
    have hT : ∀ c, takeW (isF l) (wayI l.length e 1) (c + 1) 0 = onI l.length e 1 :: takeW (isF l) (wayI l.length e 1) c 1 := by
      intro c
      rw [takeW, hw, if_neg (by rw [hN]; decide)]
    exact ⟨takeW (isF l) (wayI l.length e 1) m 1, by rw [← hT m, ← hm]⟩
/-- Going on from an open field's first cell, and back: one is where one was. -/
theorem next_prev (l : List S35) (e : Int) (e0 : 0 ≤ e) (e1 : e < l.length) (h : entI l e = true) : 0 ≤ nextI l (onI l.length e 1) ∧ nextI l (onI l.length e 1) < l.length ∧ prevI l (nextI l (onI l.length e 1)) = onI l.length e 1 := by
  obtain ⟨hF, hP, hN⟩ := ent_parts h
  have hp : 0 < l.length := by omega
  -- the way on, told from e
  have hw : ∀ j, wayI l.length (onI l.length e 1) 1 j = (e + 2 + j) % (l.length : Int) := by
    intro j; unfold wayI onI sgnI
    simp only [show ¬ (1 : Int) < 0 by decide, if_false, Int.one_mul]
    rw [show (e + 1) % (l.length : Int) + 1 + (j : Int) = (e + 1) % (l.length : Int) + (1 + (j : Int)) by omega, Int.emod_add_emod]
    congr 1; omega
  have hne : nextI l (onI l.length e 1) ≠ -1 := fun hh => by
    rw [(no_ent_next l _ hp).1 hh e e0 e1] at h; cases h
  have hN2 : 2 ≤ l.length := by
    rcases Nat.lt_or_ge l.length 2 with hh | hh
    · exfalso
      have hl : l.length = 1 := by omega
      have : onI l.length e 1 = e := by unfold onI; rw [hl]; have : e = 0 := by omega
                                        subst this; decide
      rw [this, hF] at hN; cases hN
    · exact hh
  unfold nextI at hne ⊢
  rcases firstI_cases l (wayI l.length (onI l.length e 1) 1) (way_nn _ hp _ 1) hp with ⟨h1, _⟩ | ⟨j, hj, h3, h4, h5⟩
  · exact absurd h1 hne
  rw [h5]
  refine ⟨onI_nonneg hp _ _, onI_lt hp _ _, ?_⟩
  have hj2 : j + 1 < l.length := by
    rcases Nat.lt_or_ge (j + 1) l.length with hh | hh
    · exact hh
    · exfalso
      have ej : j = l.length - 1 := by omega
      have := h4 (l.length - 2) (by omega)
      rw [hw, show (e + 2 + ((l.length - 2 : Nat) : Int)) = e + (l.length : Int) by omega, Int.add_emod_right, Int.emod_eq_of_lt e0 e1, h] at this
      cases this
  have hb : ∀ i : Nat, i ≤ j + 1 → wayI l.length (onI l.length (wayI l.length (onI l.length e 1) 1 j) 1) (-2) i = (e + 1 + ((j : Int) - i)) % (l.length : Int) := by
    intro i hi
    rw [hw]; unfold wayI onI sgnI
    simp only [show (-2 : Int) < 0 by decide, if_true]
    rw [show ((e + 2 + (j : Int)) % (l.length : Int) + 1) % (l.length : Int) + -2 + -1 * (i : Int) = ((e + 2 + (j : Int)) % (l.length : Int) + 1) % (l.length : Int) + (-2 - (i : Int)) by omega, Int.emod_add_emod, Int.add_assoc, Int.emod_add_emod]
    congr 1; omega
  unfold prevI
  have he : wayI l.length (onI l.length (wayI l.length (onI l.length e 1) 1 j) 1) (-2) (j + 1) = e := by
    rw [hb (j + 1) (Nat.le_refl _), show e + 1 + ((j : Int) - ((j + 1 : Nat) : Int)) = e by omega]; exact Int.emod_eq_of_lt e0 e1
  rw [firstI_at l _ (way_nn _ hp _ (-2)) (j + 1) hj2 (by rw [he]; exact h) (fun i hi => ?_), he]
  rw [hb i (by omega)]
  by_cases hij : i = j
  · subst hij
    rw [show e + 1 + ((i : Int) - (i : Int)) = e + 1 by omega]
    show entI l (onI l.length e 1) = false
    unfold entI; rw [hN]; rfl
  · have := h4 (j - 1 - i) (by omega)
    rw [hw] at this
    rw [show e + 1 + ((j : Int) - (i : Int)) = e + 2 + ((j - 1 - i : Nat) : Int) by omega]
    exact this
end Go.Proofs.YtggecanpjkpkiaaDoor.P
namespace Go.Proofs.YtggecanpjkpkiaaDoor.P
open Go.RowKit Go.Proofs.YtggecanpjkpkiaaDoorW.PrintWords Go.Proofs.YtggecanpjkpkiaaDoorW.PrintLast
set_option linter.unusedVariables false
set_option linter.unusedSimpArgs false
theorem emod_over (x : Int) (n : Nat) (h0 : (n : Int) ≤ x) (h1 : x < 2 * n) : x % (n : Int) = x - n := by
  have h : (x - n) % (n : Int) = x % (n : Int) := by rw [Int.sub_emod, Int.emod_self, Int.sub_zero, Int.emod_emod_of_dvd _ (Int.dvd_refl _)]
  rw [← h]; exact Int.emod_eq_of_lt (by omega) (by omega)
theorem emod_under (x : Int) (n : Nat) (h0 : -(n : Int) ≤ x) (h1 : x < 0) : x % (n : Int) = x + n := by
  have h : (x + n - n) % (n : Int) = (x + n) % (n : Int) := by rw [Int.sub_emod, Int.emod_self, Int.sub_zero, Int.emod_emod_of_dvd _ (Int.dvd_refl _)]
  rw [show x + n - n = x by omega] at h
  rw [h]; exact Int.emod_eq_of_lt (by omega) (by omega)
theorem way_val (n : Nat) (b : Int) (i : Nat) (b0 : 0 ≤ b) (b1 : b < n) (hi : i < n) : wayI n b 1 i = if b + 1 + i < n then b + 1 + i else b + 1 + i - n := by
  have e : wayI n b 1 i = (b + 1 + i) % (n : Int) := by unfold wayI sgnI; rw [if_neg (by omega), Int.one_mul]
  rw [e]
  by_cases h : b + 1 + i < n
  · rw [if_pos h]; exact Int.emod_eq_of_lt (by omega) h
  · rw [if_neg h]; exact emod_over _ _ (by omega) (by omega)
theorem back_val (n : Nat) (x : Int) (j : Nat) (x0 : 0 ≤ x) (x1 : x < n) (hj : j < n) : (x - j) % (n : Int) = if (j : Int) ≤ x then x - j else x - j + n := by
  by_cases h : (j : Int) ≤ x
  · rw [if_pos h]; exact Int.emod_eq_of_lt (by omega) (by omega)
  · rw [if_neg h]; exact emod_under _ _ (by omega) (by omega)

theorem takeW_way (p : Int → Bool) (g : Nat → Int) : ∀ c s, ∃ k, k ≤ c ∧ takeW p g c s = uptoI (fun j => g (s + j)) k ∧ (∀ i, i < k → p (g (s + i)) = false) ∧ (k = c ∨ p (g (s + k)) = true)
  | 0, s => ⟨0, Nat.le_refl _, rfl, fun i h => by omega, .inl rfl⟩
  | c + 1, s => by
    by_cases h : p (g s) = true
    · exact ⟨0, by omega, by rw [takeW, if_pos h]; rfl, fun i hi => by omega, .inr h⟩
    · obtain ⟨k, h1, h2, h3, h4⟩ := takeW_way p g c (s + 1)
      refine ⟨k + 1, by omega, ?_, fun i hi => ?_, ?_⟩
      · rw [takeW, if_neg h, h2, uptoI_front]; simp only [Nat.add_zero]; congr 1; congr 1; funext j; rw [show s + 1 + j = s + (j + 1) by omega]
      · rcases i with _ | i
        · simpa using h
        · have := h3 i (by omega); rw [show s + (i + 1) = s + 1 + i by omega]; exact this
      · rcases h4 with h4 | h4
        · left; omega
        · right; rw [show s + (k + 1) = s + 1 + k by omega]; exact h4

/-- the cells behind a cell with a field, up to the next one -/
theorem cells_parts (l : List S35) (b : Int) (b0 : 0 ≤ b) (b1 : b < l.length) (hF : isF l b = true) :
    ∃ k, k < l.length ∧ cellsI l b = uptoI (wayI l.length b 1) k ∧ (∀ i, i < k → isF l (wayI l.length b 1 i) = false) ∧ isF l (wayI l.length b 1 k) = true := by
  obtain ⟨k, h1, h2, h3, h4⟩ := takeW_way (isF l) (wayI l.length b 1) l.length 0
  simp only [Nat.zero_add] at h2 h3 h4
  have hlast : wayI l.length b 1 (l.length - 1) = b := by
    rw [way_val _ _ _ b0 b1 (by omega)]; split <;> omega
  have hk : k ≠ l.length := fun e => by
    have := h3 (l.length - 1) (by omega)
    rw [hlast, hF] at this; cases this
  refine ⟨k, by omega, ?_, h3, ?_⟩
  · unfold cellsI
    rw [begin_here l b b0 b1 hF, if_neg (by omega)]; exact h2
  · rcases h4 with h4 | h4
    · exact absurd h4 hk
    · exact h4
theorem begin_at (l : List S35) (x : Int) (j : Nat) (hj : j < l.length) (h : isF l ((x - j) % (l.length : Int)) = true) (h' : ∀ i : Nat, i < j → isF l ((x - i) % (l.length : Int)) = false) : beginI l x = (x - j) % (l.length : Int) :=
  findW_eq (isF l) (fun j => (x - j) % (l.length : Int)) l.length 0 j (by omega) (by omega) h (fun i _ hi => h' i hi)
theorem parts_in (l : List S35) (b : Int) (b0 : 0 ≤ b) (b1 : b < l.length) (hF : isF l b = true) (k : Nat) (hk : k < l.length) (hn : ∀ i, i < k → isF l (wayI l.length b 1 i) = false) (i : Nat) (hi : i < k) : beginI l (wayI l.length b 1 i) = b := by
  have v := way_val l.length b i b0 b1 (by omega)
  have w0 : 0 ≤ wayI l.length b 1 i ∧ wayI l.length b 1 i < l.length := by rw [v]; split <;> omega
  have e : (wayI l.length b 1 i - ((i + 1 : Nat) : Int)) % (l.length : Int) = b := by
    rw [back_val _ _ _ w0.1 w0.2 (by omega), v]; split <;> split <;> omega
  have := begin_at l (wayI l.length b 1 i) (i + 1) (by omega) (by rw [e]; exact hF) (fun j hj => by
    have e' : (wayI l.length b 1 i - (j : Int)) % (l.length : Int) = wayI l.length b 1 (i - j) := by
      rw [back_val _ _ _ w0.1 w0.2 (by omega), v, way_val _ _ _ b0 b1 (by omega)]; split <;> split <;> split <;> omega
    rw [e']; exact hn _ (by omega))
  rw [this, e]
theorem parts_all (l : List S35) (b : Int) (b0 : 0 ≤ b) (b1 : b < l.length) (k : Nat) (hk : k < l.length) (hK : isF l (wayI l.length b 1 k) = true) (x : Int) (x0 : 0 ≤ x) (x1 : x < l.length) (hx : beginI l x = b) (ne : x ≠ b) : ∃ i, i < k ∧ wayI l.length b 1 i = x := by
  rcases findW_cases (isF l) (fun j => (x - j) % (l.length : Int)) l.length 0 with ⟨h, _⟩ | ⟨j, _, hj, hp, hall, h⟩
  · have : beginI l x = -1 := h
    omega
  · have e : (x - (j : Int)) % (l.length : Int) = b := (show beginI l x = _ from h).symm.trans hx
    have v := back_val l.length x j x0 x1 (by omega)
    rw [e] at v
    have hj0 : j ≠ 0 := fun z => by
      subst z; rw [if_pos (by omega)] at v; omega
    have e2 : wayI l.length b 1 (j - 1) = x := by
      rw [way_val _ _ _ b0 b1 (by omega)]; revert v; split <;> split <;> omega
    refine ⟨j - 1, ?_, e2⟩
    rcases Nat.lt_or_ge (j - 1) k with hh | hh
    · exact hh
    · exfalso
      have e3 : (x - ((j - 1 - k : Nat) : Int)) % (l.length : Int) = wayI l.length b 1 k := by
        rw [back_val _ _ _ x0 x1 (by omega), way_val _ _ _ b0 b1 hk]; revert v; split <;> split <;> split <;> omega
      have h5 : isF l ((x - ((j - 1 - k : Nat) : Int)) % (l.length : Int)) = false := hall (j - 1 - k) (by omega) (by omega)
      rw [e3, hK] at h5; cases h5

theorem begin_never (l : List S35) (x : Int) (x0 : 0 ≤ x) (x1 : x < l.length) (h : beginI l x = -1) (y : Int) (y0 : 0 ≤ y) (y1 : y < l.length) : isF l y = false := by
  rcases findW_cases (isF l) (fun j => (x - j) % (l.length : Int)) l.length 0 with ⟨_, ha⟩ | ⟨j, _, hj, _, _, e⟩
  · by_cases hh : y ≤ x
    · have h5 : isF l ((x - ((x - y).toNat : Int)) % (l.length : Int)) = false := ha (x - y).toNat (by omega) (by omega)
      rw [back_val _ _ _ x0 x1 (by omega), if_pos (by omega), show x - ((x - y).toNat : Int) = y by omega] at h5
      exact h5
    · have h5 : isF l ((x - ((x - y + l.length).toNat : Int)) % (l.length : Int)) = false := ha (x - y + l.length).toNat (by omega) (by omega)
      rw [back_val _ _ _ x0 x1 (by omega), if_neg (by omega), show x - ((x - y + l.length).toNat : Int) + l.length = y by omega] at h5
      exact h5
  · have e2 : beginI l x = (x - (j : Int)) % (l.length : Int) := e
    have := Int.emod_nonneg (x - (j : Int)) (b := (l.length : Int)) (by omega)
    omega
theorem begin_only (l : List S35) (h : ∀ y : Int, 0 ≤ y → y < l.length → isF l y = false) (hp : 0 < l.length) (x : Int) : beginI l x = -1 :=
  findW_none (isF l) (fun j => (x - j) % (l.length : Int)) l.length 0 (fun i _ _ => h _ (Int.emod_nonneg _ (by omega)) (Int.emod_lt_of_pos _ (by omega)))
theorem cells_of_begin (l : List S35) (a b : Int) (hb : beginI l a = b) (b0 : 0 ≤ b) (b1 : b < l.length) (hF : isF l b = true) : cellsI l a = cellsI l b := by
  unfold cellsI; rw [hb, begin_here l b b0 b1 hF]
/-- the cells of an open cell's field: a list without a cell twice, all in the field, the cell itself among them -/
theorem cells_all (l : List S35) (a : Int) (a0 : 0 ≤ a) (a1 : a < l.length) (ha : isF l a = false) :
    a ∈ cellsI l a ∧ (cellsI l a).Nodup ∧ ∀ x ∈ cellsI l a, 0 ≤ x ∧ x < l.length ∧ isF l x = false ∧ beginI l x = beginI l a := by
  have hp : 0 < l.length := by omega
  rcases begin_range l a hp with hb | ⟨b0, b1, hF⟩
  · have hn := begin_never l a a0 a1 hb
    have hc : cellsI l a = uptoI (fun j => (j : Int)) l.length := by unfold cellsI; rw [hb, if_pos (by decide)]
    rw [hc, hb]
    unfold uptoI
    refine ⟨List.mem_map.2 ⟨a.toNat, List.mem_range.2 (by omega), by omega⟩, ?_, fun x hx => ?_⟩
    · exact List.Pairwise.map _ (fun x y (h : x ≠ y) => by omega) List.nodup_range
    · obtain ⟨j, hj, rfl⟩ := List.mem_map.1 hx
      have := List.mem_range.1 hj
      exact ⟨by omega, by omega, hn _ (by omega) (by omega), begin_only l hn hp _⟩
  · obtain ⟨k, hk, hc, hn, hK⟩ := cells_parts l (beginI l a) b0 b1 hF
    rw [cells_of_begin l a _ rfl b0 b1 hF, hc]
    have hne : a ≠ beginI l a := fun e => by rw [← e, ha] at hF; cases hF
    obtain ⟨i, hi, e⟩ := parts_all l (beginI l a) b0 b1 k hk hK a a0 a1 rfl hne
    unfold uptoI
    refine ⟨List.mem_map.2 ⟨i, List.mem_range.2 hi, e⟩, ?_, fun x hx => ?_⟩
    · rw [List.Nodup, List.pairwise_map]
      refine List.Pairwise.imp_of_mem ?_ List.nodup_range
      intro x y hx hy hxy he
      have hx' := List.mem_range.1 hx
      have hy' := List.mem_range.1 hy
      rw [way_val _ _ _ b0 b1 (by omega), way_val _ _ _ b0 b1 (by omega)] at he
      revert he; split <;> split <;> omega
    · obtain ⟨j, hj, rfl⟩ := List.mem_map.1 hx
      have hj' := List.mem_range.1 hj
      exact ⟨wayI_nonneg hp _ _ _, wayI_lt hp _ _ _, hn j hj', parts_in l _ b0 b1 hF k hk hn j hj'⟩
end Go.Proofs.YtggecanpjkpkiaaDoor.P
namespace Go.Proofs.YtggecanpjkpkiaaDoor.P
open Go.RowKit Go.Proofs.YtggecanpjkpkiaaDoorW.PrintWords Go.Proofs.YtggecanpjkpkiaaDoorW.PrintLast
set_option linter.unusedVariables false
set_option linter.unusedSimpArgs false
theorem fOn_eq (r c : Int) (l : List S35) (cu : Int) (lo ins : Bool) (a d : Int) (hn : l.length ≤ 16383) (h0 : 0 ≤ a) (h1 : a < l.length) : grid_On.f r c l cu lo ins a d = some (onI l.length a d) := grid_On.eq r c l cu lo ins a d hn h0 h1
theorem fCopy_eq (r c : Int) (l : List S35) (cu : Int) (lo ins : Bool) (hn : l.length ≤ 16383) : grid_Copy.f r c l cu lo ins = some (r, c, l, cu, lo, ins) := by
  unfold grid_Copy.f slices_Clone_shutter_api_Cell_shutter_api_Cell.f
  rw [if_pos hn]; rfl
theorem rNx_eq (r c : Int) (l : List S35) (cu : Int) (lo ins : Bool) (a : Int) (hn : l.length ≤ 16383) (h0 : 0 ≤ a) (h1 : a < l.length) : shutterref10_Next.f r c l cu lo ins a = some (onI l.length a 1) := by
  unfold shutterref10_Next.f onI
  rw [w64 (by omega)]
  by_cases h : a + 1 = (l.length : Int)
  · rw [if_pos h, h, Int.emod_self]
  · rw [if_neg h, Int.emod_eq_of_lt (by omega) (by omega)]
/-- the line of a cell -/
def rowI (l : List S35) (a : Int) : List Int := if openI l a = true then (cellsI l a).dropWhile (fun x => x != a) else []
theorem open_isF {l : List S35} {a : Int} (h : openI l a = true) : isF l a = false := by
  unfold openI at h; cases hf : isF l a
  · rfl
  · rw [hf] at h; cases h
theorem rd_nat_int (L : List Int) (k : Nat) (hk : k < L.length) : rd L (k : Int) = L[k] := by unfold rd; simp [hk]
theorem takeW_len (p : Int → Bool) (g : Nat → Int) : ∀ c s, (takeW p g c s).length ≤ c
  | 0, s => Nat.le_refl _
  | c + 1, s => by
    unfold takeW; split
    · simp
    · have := takeW_len p g c (s + 1); rw [List.length_cons]; omega
theorem cells_len (l : List S35) (a : Int) : (cellsI l a).length ≤ l.length := by
  unfold cellsI; split
  · rw [uptoI_length]; exact Nat.le_refl _
  · exact takeW_len _ _ _ _
theorem row_len (l : List S35) (a : Int) : (rowI l a).length ≤ l.length := by
  unfold rowI; split
  · exact Nat.le_trans (List.Sublist.length_le (List.dropWhile_sublist _)) (cells_len l a)
  · exact Nat.zero_le _
/-- where a cell stands in a list that has it: what lies behind it is the rest from it on -/
theorem index_loop (L : List Int) (a : Int) (hL : L.length ≤ 100000) : ∀ (d k i : Nat), d + i = L.length → d < k → a ∈ L.drop i → ∃ j : Nat, i ≤ j ∧ j < L.length ∧ slices_Index_int_int.l0 k L a L.length i = some (j : Int) ∧ L.drop j = (L.drop i).dropWhile (fun x => x != a)
  | 0, k, i, hd, hk, hm => by rw [List.drop_eq_nil_of_le (by omega)] at hm; cases hm
  | d + 1, k, i, hd, hk, hm => by
    obtain ⟨k, rfl⟩ : ∃ m, k = m + 1 := ⟨k - 1, by omega⟩
    have hi : i < L.length := by omega
    rw [slices_Index_int_int.l0, if_pos (by omega), if_pos (by omega), if_pos (by omega), rd_nat_int L i hi]
    rw [List.drop_eq_getElem_cons hi] at hm ⊢
    by_cases h : a = L[i]
    · rw [if_pos h]
      refine ⟨i, Nat.le_refl _, hi, rfl, ?_⟩
      rw [List.dropWhile_cons, if_neg (by simp [h]), List.drop_eq_getElem_cons hi]
    · rw [if_neg h, w64 (by omega)]
      have hm' : a ∈ L.drop (i + 1) := by
        rcases List.mem_cons.1 hm with e | e
        · exact absurd e h
        · exact e
      obtain ⟨j, h1, h2, h3, h4⟩ := index_loop L a hL d k (i + 1) (by omega) (by omega) hm'
      refine ⟨j, by omega, h2, h3, ?_⟩
      rw [h4, List.dropWhile_cons, if_pos (by simp; exact fun e => h e.symm)]
theorem fLine_eq (k : Nat) (r c : Int) (l : List S35) (cu : Int) (lo ins : Bool) (a : Int) (hn : l.length ≤ 16383) (h0 : 0 ≤ a) (h1 : a < l.length) (hk : l.length < k) : edit_Line.f k r c l cu lo ins a = some (rowI l a) := by
  unfold edit_Line.f rowI
  rw [fOpen_eq r c l cu lo ins a hn h0 h1, Option.bind_some]
  by_cases ho : openI l a = true
  · rw [if_pos ho, if_pos ho, fCells_eq r c l cu lo ins a hn h0 h1, Option.bind_some]
    have hc := cells_all l a h0 h1 (open_isF ho)
    have hl := cells_len l a
    obtain ⟨j, _, hj, he, hd⟩ := index_loop (cellsI l a) a (by omega) (cellsI l a).length k 0 (by omega) (by omega) (by rw [List.drop_zero]; exact hc.1)
    unfold slices_Index_int_int.f
    rw [show ((0 : Nat) : Int) = 0 from rfl] at he
    rw [he, Option.bind_some, if_pos (by omega), if_pos (by omega), Int.toNat_natCast, hd, List.drop_zero]
  · rw [if_neg ho, if_neg ho]
theorem line_loop14 (L : List Int) (a : Int) (hL : L.length ≤ 100000) : ∀ (d k i : Nat) (out : List Int) (on : Bool), d + i = L.length → d < k → out.length ≤ i → shutterref14_Line.l0 k a out L on i = some (out ++ if on = true then L.drop i else (L.drop i).dropWhile (fun x => x != a))
  | 0, k, i, out, on, hd, hk, ho => by
    obtain ⟨k, rfl⟩ : ∃ m, k = m + 1 := ⟨k - 1, by omega⟩
    rw [shutterref14_Line.l0, if_neg (by omega), List.drop_eq_nil_of_le (by omega)]
    cases on <;> simp
  | d + 1, k, i, out, on, hd, hk, ho => by
    obtain ⟨k, rfl⟩ : ∃ m, k = m + 1 := ⟨k - 1, by omega⟩
    have hi : i < L.length := by omega
    rw [shutterref14_Line.l0, if_pos (by omega), if_pos (by omega), rd_nat_int L i hi, w64 (by omega)]
    have ih := fun on' out' (ho' : out'.length ≤ i + 1) => line_loop14 L a hL d k (i + 1) out' on' (by omega) (by omega) ho'
    rw [Int.natCast_add] at ih
    rw [show ((1 : Nat) : Int) = 1 from rfl] at ih
    rw [List.drop_eq_getElem_cons hi]
    by_cases h : L[i] = a
    · have hd2 : ((L[i] :: L.drop (i + 1)).dropWhile (fun x => x != a)) = L[i] :: L.drop (i + 1) := by
        rw [List.dropWhile_cons, if_neg]
        rw [h]; simp
      rw [if_pos h, if_pos (by omega), ih true _ (by simp; omega), if_pos rfl, hd2]
      cases on <;> simp
    · rw [if_neg h]
      cases on with
      | true => rw [if_pos rfl, if_pos (by omega), ih true _ (by simp; omega), if_pos rfl, if_pos rfl]; simp
      | false => rw [if_neg (by decide), ih false _ (by omega), if_neg (by decide), if_neg (by decide), List.dropWhile_cons, if_pos (by simpa using h)]
theorem rLine_eq (k : Nat) (r c : Int) (l : List S35) (cu : Int) (lo ins : Bool) (a : Int) (hn : l.length ≤ 16383) (h0 : 0 ≤ a) (h1 : a < l.length) (hk : l.length + 2 < k) : shutterref14_Line.f k r c l cu lo ins a = some (rowI l a) := by
  unfold shutterref14_Line.f rowI
  rw [rOpen_eq k r c l cu lo ins a hn h0 h1 hk, Option.bind_some]
  by_cases ho : openI l a = true
  · have hl := cells_len l a
    rw [if_pos ho, if_pos ho, rCells_eq k r c l cu lo ins a hn h0 h1 hk, Option.bind_some]
    have := line_loop14 (cellsI l a) a (by omega) (cellsI l a).length k 0 [] false (by omega) (by omega) (Nat.zero_le _)
    rw [show ((0 : Nat) : Int) = 0 from rfl] at this
    rw [this, if_neg (by decide)]; simp
  · rw [if_neg ho, if_neg ho]
/-- a cell, modified -/
def modC (x : S35) : S35 := ⟨x.f0, ⟨x.f1.f0, x.f1.f1, x.f1.f2, true⟩, x.f2⟩
/-- a cell's field, modified -/
def modI (l : List S35) (a : Int) : List S35 := if 0 ≤ beginI l a then l.set (beginI l a).toNat (modC (rd_T35 l (beginI l a))) else l
theorem modI_length (l : List S35) (a : Int) : (modI l a).length = l.length := by unfold modI; split <;> simp
theorem fModify_eq (r c : Int) (l : List S35) (cu : Int) (lo ins : Bool) (a : Int) (hn : l.length ≤ 16383) (h0 : 0 ≤ a) (h1 : a < l.length) : edit_Modify.f r c l cu lo ins a = some (r, c, modI l a, cu, lo, ins) := by
  unfold edit_Modify.f modI
  rw [fCopy_eq r c l cu lo ins hn, Option.bind_some]
  simp only
  rw [fBegin_eq r c l cu lo ins a hn h0 h1, Option.bind_some]
  rcases begin_range l a (by omega) with hb | ⟨b0, b1, _⟩
  · rw [hb, if_neg (by decide), if_neg (by decide)]
  · rw [if_pos b0, if_pos b0, if_pos b1, if_pos b0]; rfl
theorem rModify_eq (k : Nat) (r c : Int) (l : List S35) (cu : Int) (lo ins : Bool) (a : Int) (hn : l.length ≤ 16383) (h0 : 0 ≤ a) (h1 : a < l.length) (hk : l.length + 2 < k) : shutterref14_Modify.f k r c l cu lo ins a = some (r, c, modI l a, cu, lo, ins) := by
  unfold shutterref14_Modify.f modI
  rw [rCopy_eq r c l cu lo ins hn, Option.bind_some]
  simp only
  rw [rBegin_eq k r c l cu lo ins a hn h0 h1 hk, Option.bind_some]
  rcases begin_range l a (by omega) with hb | ⟨b0, b1, _⟩
  · rw [hb, if_neg (by decide), if_neg (by decide)]
  · rw [if_pos b0, if_pos b0, if_pos b1, if_pos b0]; rfl
theorem fDeny_eq (r c : Int) (l : List S35) (cu : Int) (lo ins : Bool) (n : Int) (x : List S164) (hn : l.length ≤ 16383) : edit_Deny.f r c l cu lo ins (some (Er.num n)) x = some (r, c, l, cu, true, ins, some Er.spot, [⟨cu, n⟩]) := by
  unfold edit_Deny.f; rw [if_pos hn]
theorem rDeny_eq (r c : Int) (l : List S35) (cu : Int) (lo ins : Bool) (hn : l.length ≤ 16383) : shutterref14_Deny.f r c l cu lo ins = some (r, c, l, cu, true, ins) := by
  unfold shutterref14_Deny.f; rw [rCopy_eq r c l cu lo ins hn, Option.bind_some]
theorem digit_same (a : Int) : edit_Digit.f a = shutterref14_Digit.f a := rfl
end Go.Proofs.YtggecanpjkpkiaaDoor.P
namespace Go.Proofs.YtggecanpjkpkiaaDoor.P
open Go.RowKit Go.Proofs.YtggecanpjkpkiaaDoorW.PrintWords Go.Proofs.YtggecanpjkpkiaaDoorW.PrintLast
set_option linter.unusedVariables false
set_option linter.unusedSimpArgs false
/-! lists, cell by cell -/
theorem ff_ : ¬ (false = true) := by decide
theorem tf_ : ¬ (true = false) := by decide
theorem pos_ {α : Type} {P : Prop} [Decidable P] {x y z : α} (h : P) (e : x = z) : (if P then x else y) = z := by rw [if_pos h]; exact e
theorem neg_ {α : Type} {P : Prop} [Decidable P] {x y z : α} (h : ¬ P) (e : y = z) : (if P then x else y) = z := by rw [if_neg h]; exact e
theorem rd_set (l : List S35) (x y : Int) (v : S35) (x0 : 0 ≤ x) (x1 : x < l.length) (y0 : 0 ≤ y) : rd_T35 (l.set (x : Int).toNat v) y = if x = y then v else rd_T35 l y := by
  obtain ⟨m, rfl⟩ := Int.eq_ofNat_of_zero_le x0
  obtain ⟨n, rfl⟩ := Int.eq_ofNat_of_zero_le y0
  simp only [rd_T35, Int.toNat_natCast, List.getD_eq_getElem?_getD, List.getElem?_set]
  by_cases h : m = n
  · subst h; rw [if_pos rfl, if_pos rfl, if_pos (by omega)]; rfl
  · rw [if_neg h, if_neg (by omega)]
theorem cells_ext {l l' : List S35} (hl : l.length = l'.length) (h : ∀ y : Int, 0 ≤ y → y < l.length → rd_T35 l y = rd_T35 l' y) : l = l' := by
  apply List.ext_getElem hl
  intro i h1 h2
  have := h (i : Int) (by omega) (by omega)
  rwa [rd_nat l i h1, rd_nat l' i h2] at this
theorem isF_set (l : List S35) (x y : Int) (v : S35) (x0 : 0 ≤ x) (x1 : x < l.length) (y0 : 0 ≤ y) : isF (l.set (x : Int).toNat v) y = if x = y then v.f0 else isF l y := by
  unfold isF; rw [rd_set l x y v x0 x1 y0]; split <;> rfl
/-! a line -/
theorem row_open {l : List S35} {a : Int} (a0 : 0 ≤ a) (a1 : a < l.length) (ho : openI l a = true) :
    (rowI l a).Nodup ∧ (∀ x ∈ rowI l a, 0 ≤ x ∧ x < l.length ∧ isF l x = false ∧ beginI l x = beginI l a) ∧ 0 < (rowI l a).length ∧ rd (rowI l a) 0 = a := by
  obtain ⟨h1, h2, h3⟩ := cells_all l a a0 a1 (open_isF ho)
  have e : rowI l a = (cellsI l a).dropWhile (fun x => x != a) := by unfold rowI; rw [if_pos ho]
  have hsub : (rowI l a).Sublist (cellsI l a) := by rw [e]; exact List.dropWhile_sublist _
  have hhead : ∀ L : List Int, a ∈ L → ∃ t, L.dropWhile (fun x => x != a) = a :: t := by
    intro L
    induction L with
    | nil => intro h; cases h
    | cons x t ih =>
      intro h
      rw [List.dropWhile_cons]
      by_cases hx : x = a
      · subst hx; exact ⟨t, by simp⟩
      · rw [if_pos (by simpa using hx)]
        rcases List.mem_cons.1 h with h | h
        · exact absurd h.symm hx
        · exact ih h
  obtain ⟨t, ht⟩ := hhead _ h1
  refine ⟨h2.sublist hsub, fun x hx => h3 x (hsub.subset hx), ?_, ?_⟩
  · rw [e, ht]; simp
  · rw [e, ht]; rfl
theorem rd_mem (L : List Int) (i : Nat) (hi : i < L.length) : rd L (i : Int) ∈ L := by rw [rd_nat_int L i hi]; exact List.getElem_mem hi
theorem rd_inj {L : List Int} (h : L.Nodup) {i j : Nat} (hi : i < L.length) (hj : j < L.length) (e : rd L (i : Int) = rd L (j : Int)) : i = j := by
  rw [rd_nat_int L i hi, rd_nat_int L j hj] at e
  rcases Nat.lt_trichotomy i j with hij | hij | hij
  · exact absurd e (List.pairwise_iff_getElem.1 h i j hi hj hij)
  · exact hij
  · exact absurd e.symm (List.pairwise_iff_getElem.1 h j i hj hi hij)
theorem rd_mem_cells (l : List S35) (x : Int) (x0 : 0 ≤ x) (x1 : x < l.length) : rd_T35 l x ∈ l := by
  obtain ⟨m, rfl⟩ := Int.eq_ofNat_of_zero_le x0
  rw [rd_nat l m (by omega)]; exact List.getElem_mem _
theorem mem_rd (l : List S35) (x : S35) (hx : x ∈ l) : ∃ y : Int, 0 ≤ y ∧ y < l.length ∧ rd_T35 l y = x := by
  obtain ⟨m, hm, e⟩ := List.getElem_of_mem hx
  exact ⟨m, by omega, by omega, by rw [rd_nat l m (by omega)]; exact e⟩
theorem modI_rd (l : List S35) (a : Int) (hp : 0 < l.length) (x : Int) (x0 : 0 ≤ x) (h : isF l x = false) : rd_T35 (modI l a) x = rd_T35 l x := by
  unfold modI
  rcases begin_range l a hp with hb | ⟨b0, b1, hF⟩
  · rw [hb, if_neg (by decide)]
  · rw [if_pos b0, rd_set l _ x _ b0 b1 x0, if_neg (fun e => by rw [e, h] at hF; cases hF)]
theorem modI_cases (l : List S35) (a : Int) (hp : 0 < l.length) (y : Int) (y0 : 0 ≤ y) : (y = beginI l a ∧ isF l y = true ∧ rd_T35 (modI l a) y = modC (rd_T35 l y)) ∨ (y ≠ beginI l a ∧ rd_T35 (modI l a) y = rd_T35 l y) := by
  unfold modI
  rcases begin_range l a hp with hb | ⟨b0, b1, hF⟩
  · right; exact ⟨by omega, by rw [hb, if_neg (by decide)]⟩
  · rw [if_pos b0, rd_set l _ y _ b0 b1 y0]
    by_cases h : beginI l a = y
    · left; exact ⟨h.symm, by rw [← h]; exact hF, by rw [if_pos h, h]⟩
    · right; exact ⟨fun e => h e.symm, if_neg h⟩
theorem okC_mod (x : S35) (hf : x.f0 = true) (h : okC x = true) : okC (modC x) = true := by
  unfold okC at h ⊢
  rw [if_pos hf] at h
  rw [if_pos (show (modC x).f0 = true from hf)]; exact h
theorem findW_alike {p q : Int → Bool} {g : Nat → Int} (h : ∀ j, p (g j) = q (g j)) : ∀ c s, findW p g c s = findW q g c s
  | 0, s => rfl
  | c + 1, s => by unfold findW; rw [h s, findW_alike h c]
/-- the fields of both begin at the same cells, and are open and numeric alike -/
structure SameF (l l' : List S35) : Prop where
  len : l'.length = l.length
  f : ∀ y : Int, 0 ≤ y → isF l' y = isF l y
  a0 : ∀ y : Int, 0 ≤ y → isF l y = true → (rd_T35 l' y).f1.f0 = (rd_T35 l y).f1.f0
  a1 : ∀ y : Int, 0 ≤ y → isF l y = true → (rd_T35 l' y).f1.f1 = (rd_T35 l y).f1.f1
theorem SameF.begin {l l' : List S35} (h : SameF l l') (hp : 0 < l.length) (x : Int) : beginI l' x = beginI l x := by
  unfold beginI
  rw [h.len]
  exact findW_alike (fun j => h.f _ (Int.emod_nonneg _ (by omega))) _ _
theorem SameF.of0 {l l' : List S35} (h : SameF l l') (hp : 0 < l.length) (x : Int) : (ofI l' x).f0 = (ofI l x).f0 := by
  unfold ofI
  rw [h.begin hp]
  rcases begin_range l x hp with hb | ⟨b0, b1, hF⟩
  · rw [hb, if_pos (by decide), if_pos (by decide)]
  · rw [if_neg (by omega), if_neg (by omega)]; exact h.a0 _ b0 hF
theorem SameF.of1 {l l' : List S35} (h : SameF l l') (hp : 0 < l.length) (x : Int) : (ofI l' x).f1 = (ofI l x).f1 := by
  unfold ofI
  rw [h.begin hp]
  rcases begin_range l x hp with hb | ⟨b0, b1, hF⟩
  · rw [hb, if_pos (by decide), if_pos (by decide)]
  · rw [if_neg (by omega), if_neg (by omega)]; exact h.a1 _ b0 hF
theorem SameF.open {l l' : List S35} (h : SameF l l') (hp : 0 < l.length) (x : Int) (x0 : 0 ≤ x) : openI l' x = openI l x := by
  unfold openI; rw [h.f x x0, h.of0 hp]
theorem SameF.trans {l l' l'' : List S35} (h : SameF l l') (h' : SameF l' l'') : SameF l l'' :=
  ⟨h'.len.trans h.len, fun y y0 => (h'.f y y0).trans (h.f y y0), fun y y0 e => (h'.a0 y y0 ((h.f y y0).trans e)).trans (h.a0 y y0 e), fun y y0 e => (h'.a1 y y0 ((h.f y y0).trans e)).trans (h.a1 y y0 e)⟩
theorem sameF_mod (l : List S35) (a : Int) (hp : 0 < l.length) : SameF l (modI l a) := by
  refine ⟨modI_length l a, fun y y0 => ?_, fun y y0 e => ?_, fun y y0 e => ?_⟩ <;> (try unfold isF) <;> unfold modI <;> rcases begin_range l a hp with hb | ⟨b0, b1, hF⟩
  · rw [hb, if_neg (by decide)]
  · rw [if_pos b0, rd_set l _ y _ b0 b1 y0]; split
    · rename_i h; subst h; rfl
    · rfl
  · rw [hb, if_neg (by decide)]
  · rw [if_pos b0, rd_set l _ y _ b0 b1 y0]; split
    · rename_i h; subst h; rfl
    · rfl
  · rw [hb, if_neg (by decide)]
  · rw [if_pos b0, rd_set l _ y _ b0 b1 y0]; split
    · rename_i h; subst h; rfl
    · rfl
/-- cells that change where no field begins, into cells where none does -/
theorem sameF_of {l l' : List S35} (hl : l'.length = l.length) (h : ∀ y : Int, 0 ≤ y → rd_T35 l' y = rd_T35 l y ∨ (isF l y = false ∧ isF l' y = false)) : SameF l l' := by
  refine ⟨hl, fun y y0 => ?_, fun y y0 e => ?_, fun y y0 e => ?_⟩
  · rcases h y y0 with h | ⟨h1, h2⟩
    · unfold isF; rw [h]
    · rw [h1, h2]
  · rcases h y y0 with h | ⟨h1, h2⟩
    · rw [h]
    · rw [h1] at e; cases e
  · rcases h y y0 with h | ⟨h1, h2⟩
    · rw [h]
    · rw [h1] at e; cases e
def newC (a : Int) : S35 := ⟨false, ⟨false, false, 0, false⟩, a⟩
/-- a cell of a right screen that begins no field bears a character alone -/
theorem plain_cell {l : List S35} (ok : ∀ x ∈ l, okC x = true) (x : Int) (x0 : 0 ≤ x) (x1 : x < l.length) (h : isF l x = false) : rd_T35 l x = newC (rd_T35 l x).f2 := by
  have := ok _ (rd_mem_cells l x x0 x1)
  unfold isF at h
  revert this h
  generalize rd_T35 l x = z
  obtain ⟨z0, ⟨z1, z2, z3, z4⟩, z5⟩ := z
  intro h this
  change z0 = false at h
  subst h
  unfold okC at this
  simp only [Bool.false_eq_true, if_false, Bool.and_eq_true, Bool.not_eq_true', beq_iff_eq] at this
  obtain ⟨⟨e1, e2, e3, e4⟩, _⟩ := this
  subst e1 e2 e3 e4
  rfl
end Go.Proofs.YtggecanpjkpkiaaDoor.P
namespace Go.Proofs.YtggecanpjkpkiaaDoor.P
open Go.RowKit Go.Proofs.YtggecanpjkpkiaaDoorW.PrintWords Go.Proofs.YtggecanpjkpkiaaDoorW.PrintLast
set_option linter.unusedVariables false
set_option linter.unusedSimpArgs false
def charC (c : S35) (v : Int) : S35 := ⟨c.f0, ⟨c.f1.f0, c.f1.f1, c.f1.f2, c.f1.f3⟩, v⟩
/-! a sweep: some cells changed, one behind the other -/
def sweep (p : Int → Bool) (g : S35 → S35) : Nat → Int → List S35 → List S35
  | 0, _, a => a
  | d + 1, x, a => sweep p g d (x + 1) (if p x = true then a.set (x : Int).toNat (g (rd_T35 a x)) else a)
theorem sweep_length (p : Int → Bool) (g : S35 → S35) : ∀ d x a, (sweep p g d x a).length = a.length
  | 0, x, a => rfl
  | d + 1, x, a => by
    unfold sweep; rw [sweep_length p g d]; split
    · rw [List.length_set]
    · rfl
theorem sweep_rd (p : Int → Bool) (g : S35 → S35) : ∀ (d : Nat) (x : Int) (a : List S35), 0 ≤ x → x + d ≤ a.length → ∀ y : Int, 0 ≤ y → rd_T35 (sweep p g d x a) y = if x ≤ y ∧ y < x + d ∧ p y = true then g (rd_T35 a y) else rd_T35 a y
  | 0, x, a, x0, hx, y, y0 => by rw [if_neg (by omega)]; rfl
  | d + 1, x, a, x0, hx, y, y0 => by
    unfold sweep
    have hl : (if p x = true then a.set (x : Int).toNat (g (rd_T35 a x)) else a).length = a.length := by split <;> simp
    rw [sweep_rd p g d (x + 1) _ (by omega) (by rw [hl]; omega) y y0]
    by_cases hp : p x = true
    · rw [if_pos hp, rd_set a x y _ x0 (by omega) y0]
      by_cases e : x = y
      · subst e; rw [if_neg (by omega), if_pos rfl, if_pos ⟨by omega, by omega, hp⟩]
      · rw [if_neg e]
        by_cases h : x + 1 ≤ y ∧ y < x + 1 + d ∧ p y = true
        · rw [if_pos h, if_pos ⟨by omega, by omega, h.2.2⟩]
        · rw [if_neg h, if_neg (fun h' => h ⟨by omega, by omega, h'.2.2⟩)]
    · rw [if_neg hp]
      by_cases h : x + 1 ≤ y ∧ y < x + 1 + d ∧ p y = true
      · rw [if_pos h, if_pos ⟨by omega, by omega, h.2.2⟩]
      · rw [if_neg h, if_neg (fun h' => h ⟨by
          have : x ≠ y := fun e => hp (by rw [e]; exact h'.2.2)
          omega, by omega, h'.2.2⟩)]
theorem rd_map (all : Bool) (l : List S35) (y : Int) (y0 : 0 ≤ y) (y1 : y < l.length) : rd_T35 (l.map (resetC all)) y = resetC all (rd_T35 l y) := by
  obtain ⟨m, rfl⟩ := Int.eq_ofNat_of_zero_le y0
  rw [rd_nat l m (by omega), rd_nat _ m (by rw [List.length_map]; omega), List.getElem_map]
/-- all input erased -/
def allI (l : List S35) : List S35 := sweep (openI l) (fun c => charC c 0) l.length 0 (l.map (resetC false))
theorem allI_length (l : List S35) : (allI l).length = l.length := by unfold allI; rw [sweep_length, List.length_map]
theorem allI_rd (l : List S35) (y : Int) (y0 : 0 ≤ y) (y1 : y < l.length) : rd_T35 (allI l) y = if openI l y = true then charC (resetC false (rd_T35 l y)) 0 else resetC false (rd_T35 l y) := by
  unfold allI
  rw [sweep_rd _ _ l.length 0 _ (by omega) (by rw [List.length_map]; omega) y y0, rd_map false l y y0 y1]
  by_cases h : openI l y = true
  · rw [if_pos h, if_pos ⟨y0, by omega, h⟩]
  · rw [if_neg h, if_neg (fun h' => h h'.2.2)]
/-- the first open cell -/
def homeI (l : List S35) : Int := mx 0 (nextI l ((l.length : Int) - 1))
theorem fall_loop (r c : Int) (l : List S35) (cu : Int) (lo ins : Bool) (hn : l.length ≤ 16383) (hp : 0 < l.length) (r' c' cu' : Int) (lo' ins' : Bool) : ∀ (d K : Nat) (x : Int) (a : List S35), 0 ≤ x → x + d = l.length → a.length = l.length → d < K →
    wipe_all.l0 K (l.length : Int) x r c l cu lo ins r' c' a cu' lo' ins' = some (r', c', sweep (openI l) (fun c => charC c 0) d x a, homeI l, lo', ins')
  | 0, K, x, a, x0, hx, ha, hk => by
    obtain ⟨K, rfl⟩ : ∃ m, K = m + 1 := ⟨K - 1, by omega⟩
    rw [wipe_all.l0, if_neg (by omega)]
    unfold grid_Size.f
    rw [Option.bind_some, w64 (by omega), fNext_eq r c l cu lo ins _ hn (by omega) (by omega), Option.bind_some]; rfl
  | d + 1, K, x, a, x0, hx, ha, hk => by
    obtain ⟨K, rfl⟩ : ∃ m, K = m + 1 := ⟨K - 1, by omega⟩
    rw [wipe_all.l0, if_pos (by omega), fOpen_eq r c l cu lo ins x hn x0 (by omega), Option.bind_some, w64 (by omega)]
    unfold sweep
    by_cases h : openI l x = true
    · rw [if_pos h, if_pos x0, if_pos (by omega), if_pos h]
      exact fall_loop r c l cu lo ins hn hp r' c' cu' lo' ins' d K (x + 1) _ (by omega) (by omega) (by rw [List.length_set]; exact ha) (by omega)
    · rw [if_neg h, if_neg h]
      exact fall_loop r c l cu lo ins hn hp r' c' cu' lo' ins' d K (x + 1) a (by omega) (by omega) ha (by omega)
theorem fall_eq (K : Nat) (r c : Int) (l : List S35) (cu : Int) (lo ins : Bool) (hn : l.length ≤ 16383) (hp : 0 < l.length) (hk : l.length < K) : wipe_all.f K r c l cu lo ins = some (r, c, allI l, homeI l, lo, ins) := by
  unfold wipe_all.f host_Reset.f
  rw [if_pos hn, Option.bind_some]
  exact fall_loop r c l cu lo ins hn hp r c cu lo ins l.length K 0 _ (by omega) (by omega) (by rw [List.length_map]) hk
/-! a line, erased or moved up -/
def wipeV (kind : Int) (l : List S35) (row : List Int) (x : Int) : Int := if kind = 12 ∧ x + 1 < row.length then (rd_T35 l (rd row (x + 1))).f2 else 0
def wipeL (v : Int → Int) (row : List Int) : Nat → Int → List S35 → List S35
  | 0, _, a => a
  | d + 1, x, a => wipeL v row d (x + 1) (a.set (rd row x).toNat (charC (rd_T35 a (rd row x)) (v x)))
theorem wipeL_length (v : Int → Int) (row : List Int) : ∀ d x a, (wipeL v row d x a).length = a.length
  | 0, x, a => rfl
  | d + 1, x, a => by unfold wipeL; rw [wipeL_length v row d, List.length_set]
theorem wipeL_rd (v : Int → Int) (row : List Int) (hnd : row.Nodup) (n : Nat) (hr : ∀ x ∈ row, 0 ≤ x ∧ x < n) : ∀ (d x : Nat) (a : List S35), a.length = n → x + d ≤ row.length →
    (∀ i : Nat, x ≤ i → i < x + d → rd_T35 (wipeL v row d (x : Int) a) (rd row (i : Int)) = charC (rd_T35 a (rd row (i : Int))) (v (i : Int))) ∧ (∀ y : Int, 0 ≤ y → (∀ i : Nat, x ≤ i → i < x + d → rd row (i : Int) ≠ y) → rd_T35 (wipeL v row d (x : Int) a) y = rd_T35 a y)
  | 0, x, a, ha, hx => ⟨fun i h1 h2 => by omega, fun y _ _ => rfl⟩
  | d + 1, x, a, ha, hx => by
    have hm := hr _ (rd_mem row x (by omega))
    obtain ⟨i1, i2⟩ := wipeL_rd v row hnd n hr d (x + 1) (a.set (rd row (x : Int)).toNat (charC (rd_T35 a (rd row (x : Int))) (v (x : Int)))) (by rw [List.length_set]; exact ha) (by omega)
    have hs := fun y (y0 : 0 ≤ y) => rd_set a (rd row (x : Int)) y (charC (rd_T35 a (rd row (x : Int))) (v (x : Int))) hm.1 (by omega) y0
    have ex : ((x : Int) + 1) = ((x + 1 : Nat) : Int) := by omega
    unfold wipeL
    rw [ex]
    refine ⟨fun i h1 h2 => ?_, fun y y0 hy => ?_⟩
    · by_cases e : i = x
      · subst e
        rw [i2 _ hm.1 (fun j j1 j2 he => by have := rd_inj hnd (by omega) (by omega) he; omega), hs _ hm.1, if_pos rfl]
      · rw [i1 i (by omega) (by omega), hs _ (hr _ (rd_mem row i (by omega))).1, if_neg (fun he => by have := rd_inj hnd (by omega) (by omega) he; omega)]
    · rw [i2 y y0 (fun j j1 j2 => hy j (by omega) (by omega)), hs y y0, if_neg (hy x (Nat.le_refl _) (by omega))]
theorem fwl_loop (row : List Int) (hrow : row.length ≤ 16383) (r c : Int) (l : List S35) (cu : Int) (lo ins : Bool) (hr : ∀ x ∈ row, 0 ≤ x ∧ x < l.length) (kind : Int) (r' c' cu' : Int) (lo' ins' : Bool) : ∀ (d K x : Nat) (a : List S35), x + d = row.length → a.length = l.length → d < K →
    wipe_Do.l0 K kind row row (row.length : Int) (x : Int) r c l cu lo ins r' c' a cu' lo' ins' = some (r', c', wipeL (wipeV kind l row) row d (x : Int) a, cu', lo', ins', none, [])
  | 0, K, x, a, hx, ha, hk => by
    obtain ⟨K, rfl⟩ : ∃ m, K = m + 1 := ⟨K - 1, by omega⟩
    rw [wipe_Do.l0, if_neg (by omega)]; rfl
  | d + 1, K, x, a, hx, ha, hk => by
    obtain ⟨K, rfl⟩ : ∃ m, K = m + 1 := ⟨K - 1, by omega⟩
    have hm := hr _ (rd_mem row x (by omega))
    have ex : wrap64 ((x : Int) + 1) = ((x + 1 : Nat) : Int) := by rw [w64 (by omega)]; omega
    have ex2 : ((x : Int) + 1) = ((x + 1 : Nat) : Int) := by omega
    rw [wipe_Do.l0, if_pos (by omega), if_pos (by omega), if_pos (by omega), if_pos hm.1, if_pos (by omega), Option.bind_some, ex]
    unfold wipeL
    rw [ex2]
    by_cases h12 : kind = 12
    · rw [if_pos h12]
      by_cases hlt : ((x + 1 : Nat) : Int) < (row.length : Int)
      · have hm1 := hr _ (rd_mem row (x + 1) (by omega))
        rw [if_pos hlt, if_pos (by omega), if_pos hm1.1, if_pos (by omega), rd_set a _ _ _ hm.1 (by omega) hm.1, if_pos rfl, List.set_set]
        rw [show wipeV kind l row (x : Int) = (rd_T35 l (rd row ((x + 1 : Nat) : Int))).f2 by unfold wipeV; rw [if_pos ⟨h12, by omega⟩, ex2]]
        exact fwl_loop row hrow r c l cu lo ins hr kind r' c' cu' lo' ins' d K (x + 1) _ (by omega) (by rw [List.length_set]; exact ha) (by omega)
      · rw [if_neg hlt, show wipeV kind l row (x : Int) = 0 by unfold wipeV; rw [if_neg (by omega)]]
        exact fwl_loop row hrow r c l cu lo ins hr kind r' c' cu' lo' ins' d K (x + 1) _ (by omega) (by rw [List.length_set]; exact ha) (by omega)
    · rw [if_neg h12, show wipeV kind l row (x : Int) = 0 by unfold wipeV; rw [if_neg (fun h => h12 h.1)]]
      exact fwl_loop row hrow r c l cu lo ins hr kind r' c' cu' lo' ins' d K (x + 1) _ (by omega) (by rw [List.length_set]; exact ha) (by omega)
/-- why a key that wipes is refused; 0: it isn't -/
def wipeW (l : List S35) (cu : Int) (lo : Bool) (kind : Int) : Int := if kind < 12 ∨ kind > 14 then 1 else if lo = true then 7 else if kind = 14 then 0 else if openI l cu = true then 0 else 8
/-- the cells behind a key that wipes -/
def wipeI (l : List S35) (cu kind : Int) : List S35 := if kind = 14 then allI l else wipeL (wipeV kind l (rowI l cu)) (rowI l cu) (rowI l cu).length 0 (modI l cu)
theorem wipeI_length (l : List S35) (cu kind : Int) : (wipeI l cu kind).length = l.length := by
  unfold wipeI; split
  · exact allI_length l
  · rw [wipeL_length, modI_length]
def wipeF (r c : Int) (l : List S35) (cu : Int) (lo ins : Bool) (kind : Int) : Int × Int × List S35 × Int × Bool × Bool × Option Er × List S164 :=
  if wipeW l cu lo kind = 0 then (r, c, wipeI l cu kind, if kind = 14 then homeI l else cu, lo, ins, none, []) else if wipeW l cu lo kind = 8 then (r, c, l, cu, true, ins, some Er.spot, [⟨cu, 8⟩]) else (r, c, l, cu, lo, ins, some (Er.num (wipeW l cu lo kind)), [])
theorem fwipes_eq (kind : Int) : wipe_Wipes.f kind = some (decide (12 ≤ kind ∧ kind ≤ 14)) := by
  unfold wipe_Wipes.f
  by_cases h : kind ≥ 12
  · rw [if_pos h]; congr 1
    by_cases h2 : kind ≤ 14
    · rw [decide_eq_true h2, decide_eq_true ⟨h, h2⟩]
    · rw [decide_eq_false h2, decide_eq_false (fun h' => h2 h'.2)]
  · rw [if_neg h, decide_eq_false (fun h' => h h'.1)]
theorem fwipe_eq (K : Nat) (r c : Int) (l : List S35) (cu : Int) (lo ins : Bool) (kind : Int) (hn : l.length ≤ 16383) (c0 : 0 ≤ cu) (c1 : cu < l.length) (hk : l.length < K) : wipe_Do.f K r c l cu lo ins kind = some (wipeF r c l cu lo ins kind) := by
  unfold wipe_Do.f wipeF wipeW
  rw [fwipes_eq, Option.bind_some]
  by_cases h1 : kind < 12 ∨ kind > 14
  · rw [decide_eq_false (by omega), if_neg (by decide)]
    simp only [if_pos h1]; rfl
  · rw [decide_eq_true (by omega), if_pos rfl]
    simp only [if_neg h1]
    cases lo with
    | true => simp only [if_true]; rfl
    | false =>
      simp only [Bool.false_eq_true, if_false]
      by_cases h14 : kind = 14
      · simp only [if_pos h14]
        rw [fall_eq K r c l cu false ins hn (by omega) hk, Option.bind_some]
        unfold wipeI; rw [if_pos h14]; rfl
      · simp only [if_neg h14]
        rw [fOpen_eq r c l cu false ins cu hn c0 c1, Option.bind_some]
        by_cases ho : openI l cu = true
        · simp only [if_pos ho]
          rw [fLine_eq K r c l cu false ins cu hn c0 c1 hk, Option.bind_some, fModify_eq r c l cu false ins cu hn c0 c1, Option.bind_some]
          obtain ⟨_, hr, _, _⟩ := row_open c0 c1 ho
          have hl := row_len l cu
          have := fwl_loop (rowI l cu) (by omega) r c l cu false ins (fun x hx => ⟨(hr x hx).1, (hr x hx).2.1⟩) kind r c cu false ins (rowI l cu).length K 0 (modI l cu) (by omega) (modI_length l cu) (by omega)
          rw [show ((0 : Nat) : Int) = 0 from rfl] at this
          unfold wipeI; rw [if_neg h14]
          exact this
        · simp only [if_neg ho]
          rw [fDeny_eq r c l cu false ins 8 [] hn, Option.bind_some]; rfl
end Go.Proofs.YtggecanpjkpkiaaDoor.P
namespace Go.Proofs.YtggecanpjkpkiaaDoor.P
open Go.RowKit Go.Proofs.YtggecanpjkpkiaaDoorW.PrintWords Go.Proofs.YtggecanpjkpkiaaDoorW.PrintLast
set_option linter.unusedVariables false
set_option linter.unusedSimpArgs false
def setM (b : Bool) (c : S35) : S35 := ⟨c.f0, ⟨c.f1.f0, c.f1.f1, c.f1.f2, b⟩, c.f2⟩
theorem okC_setM (b : Bool) (x : S35) (hf : x.f0 = true) (h : okC x = true) : okC (setM b x) = true := by
  unfold okC at h ⊢
  rw [if_pos hf] at h
  rw [if_pos (show (setM b x).f0 = true from hf)]; exact h
theorem begin_self (l : List S35) (y : Int) (y0 : 0 ≤ y) (y1 : y < l.length) (h : isF l y = true) : beginI l y = y := by
  have e : (y - (0 : Nat)) % (l.length : Int) = y := by rw [show y - ((0 : Nat) : Int) = y by omega]; exact Int.emod_eq_of_lt y0 y1
  rw [begin_at l y 0 (by omega) (by rw [e]; exact h) (fun i hi => by omega), e]
theorem home_range (l : List S35) (hp : 0 < l.length) : 0 ≤ homeI l ∧ homeI l < l.length := by
  unfold homeI
  by_cases h : nextI l ((l.length : Int) - 1) = -1
  · rw [h]; exact ⟨by decide, by show (0 : Int) < _; omega⟩
  · obtain ⟨e, _, _, _, he⟩ := next_ent l ((l.length : Int) - 1) hp h
    have h0 := onI_nonneg hp e 1
    have h1 := onI_lt hp e 1
    rw [he]; unfold mx; split <;> omega
theorem open_begin {l : List S35} {x y : Int} (hx : openI l x = true) (hF : isF l y = false) (hb : beginI l y = beginI l x) : openI l y = true := by
  unfold openI ofI at hx ⊢
  rw [hb, hF]
  rw [Bool.and_eq_true] at hx
  rw [Bool.and_eq_true]; exact ⟨rfl, hx.2⟩
theorem reset_plain {c : S35} {v : Int} (h : c = newC v) (all : Bool) : resetC all c = c := by
  subst h; unfold resetC newC; split <;> rfl
theorem reset_setM (all : Bool) (c : S35) : ∃ b, resetC all c = setM b c := by
  unfold resetC; split
  · exact ⟨false, rfl⟩
  · exact ⟨c.f1.f3, rfl⟩
theorem all_cases {r c : Int} {l : List S35} {cu : Int} (h : RightI r c l cu) (y : Int) (y0 : 0 ≤ y) (y1 : y < l.length) :
    rd_T35 (allI l) y = rd_T35 l y ∨ (isF l y = true ∧ ∃ b, rd_T35 (allI l) y = setM b (rd_T35 l y)) ∨ (openI l y = true ∧ rd_T35 (allI l) y = newC 0) := by
  rw [allI_rd l y y0 y1]
  cases hF : isF l y with
  | true =>
    have ho : ¬ openI l y = true := fun ho => by rw [open_isF ho] at hF; cases hF
    rw [if_neg ho]
    exact .inr (.inl ⟨rfl, reset_setM false _⟩)
  | false =>
    have hp := plain_cell h.ok y y0 y1 hF
    rw [reset_plain hp]
    by_cases ho : openI l y = true
    · rw [if_pos ho]; right; right; refine ⟨ho, ?_⟩; rw [hp]; rfl
    · rw [if_neg ho]; exact .inl rfl
theorem wipe_cases {r c : Int} {l : List S35} {cu : Int} (h : RightI r c l cu) (kind : Int) (ho : kind ≠ 14 → openI l cu = true) (y : Int) (y0 : 0 ≤ y) (y1 : y < l.length) :
    rd_T35 (wipeI l cu kind) y = rd_T35 l y ∨ ((kind = 14 ∨ beginI l y = beginI l cu) ∧ isF l y = true ∧ ∃ b, rd_T35 (wipeI l cu kind) y = setM b (rd_T35 l y)) ∨ ((kind = 14 ∨ beginI l y = beginI l cu) ∧ openI l y = true ∧ ∃ v, rd_T35 (wipeI l cu kind) y = newC v ∧ okC (newC v) = true) := by
  have hp : 0 < l.length := by have := h.cu0; have := h.cu1; omega
  unfold wipeI
  by_cases h14 : kind = 14
  · rw [if_pos h14]
    rcases all_cases h y y0 y1 with e | ⟨e1, e2⟩ | ⟨e1, e2⟩
    · exact .inl e
    · exact .inr (.inl ⟨.inl h14, e1, e2⟩)
    · exact .inr (.inr ⟨.inl h14, e1, 0, e2, rfl⟩)
  · rw [if_neg h14]
    have hop := ho h14
    obtain ⟨hnd, hr, _, _⟩ := row_open h.cu0 h.cu1 hop
    obtain ⟨w1, w2⟩ := wipeL_rd (wipeV kind l (rowI l cu)) (rowI l cu) hnd l.length (fun x hx => ⟨(hr x hx).1, (hr x hx).2.1⟩) (rowI l cu).length 0 (modI l cu) (modI_length l cu) (by omega)
    rw [show ((0 : Nat) : Int) = 0 from rfl] at w1 w2
    by_cases hin : ∃ t : Nat, t < (rowI l cu).length ∧ rd (rowI l cu) (t : Int) = y
    · obtain ⟨t, t1, et⟩ := hin
      obtain ⟨_, _, hyF, hyb⟩ := hr _ (rd_mem (rowI l cu) t t1)
      have := w1 t (by omega) (by omega)
      rw [et] at hyF hyb this
      refine .inr (.inr ⟨.inr hyb, open_begin hop hyF hyb, wipeV kind l (rowI l cu) (t : Int), ?_, ?_⟩)
      · rw [this, modI_rd l cu hp y y0 hyF, plain_cell h.ok y y0 y1 hyF]; rfl
      · unfold wipeV; split
        · rename_i hv
          obtain ⟨z0, z1, hzF, _⟩ := hr _ (rd_mem (rowI l cu) (t + 1) (by omega))
          rw [show ((t + 1 : Nat) : Int) = (t : Int) + 1 by omega] at z0 z1 hzF
          rw [← plain_cell h.ok _ z0 z1 hzF]; exact h.ok _ (rd_mem_cells l _ z0 z1)
        · rfl
    · rw [w2 y y0 (fun t _ t2 e => hin ⟨t, by omega, e⟩)]
      rcases modI_cases l cu hp y y0 with ⟨e1, e2, e3⟩ | ⟨_, e⟩
      · exact .inr (.inl ⟨.inr (by rw [begin_self l y y0 y1 e2]; exact e1), e2, true, e3⟩)
      · exact .inl e
/-- where the field begins, it is modified then -/
theorem wipe_mod {r c : Int} {l : List S35} {cu : Int} (h : RightI r c l cu) (kind : Int) (h14 : kind ≠ 14) (ho : openI l cu = true) (hb : 0 ≤ beginI l cu) : (rd_T35 (wipeI l cu kind) (beginI l cu)).f1.f3 = true := by
  have hp : 0 < l.length := by have := h.cu0; have := h.cu1; omega
  obtain ⟨hnd, hr, _, _⟩ := row_open h.cu0 h.cu1 ho
  obtain ⟨w1, w2⟩ := wipeL_rd (wipeV kind l (rowI l cu)) (rowI l cu) hnd l.length (fun x hx => ⟨(hr x hx).1, (hr x hx).2.1⟩) (rowI l cu).length 0 (modI l cu) (modI_length l cu) (by omega)
  rw [show ((0 : Nat) : Int) = 0 from rfl] at w1 w2
  have hF : isF l (beginI l cu) = true := by
    rcases begin_range l cu hp with hb' | ⟨_, _, hF⟩
    · omega
    · exact hF
  unfold wipeI; rw [if_neg h14]
  rw [w2 _ hb (fun t _ t2 e => by
    have := (hr _ (rd_mem (rowI l cu) t (by omega))).2.2.1
    rw [e, hF] at this; cases this)]
  rcases modI_cases l cu hp (beginI l cu) hb with ⟨_, _, e3⟩ | ⟨e, _⟩
  · rw [e3]; rfl
  · exact absurd rfl e
theorem wipe_right {r c : Int} {l : List S35} {cu : Int} (h : RightI r c l cu) (kind : Int) (ho : kind ≠ 14 → openI l cu = true) : RightI r c (wipeI l cu kind) (if kind = 14 then homeI l else cu) := by
  have hl := wipeI_length l cu kind
  have hp : 0 < l.length := by have := h.cu0; have := h.cu1; omega
  have hh := home_range l hp
  refine ⟨h.r1, h.c1, h.r2, h.c2, h.rc, by rw [hl]; exact h.len, ?_, ?_, fun x hx => ?_⟩
  · split
    · exact hh.1
    · exact h.cu0
  · rw [hl]; split
    · exact hh.2
    · exact h.cu1
  obtain ⟨y, y0, y1, e⟩ := mem_rd _ x hx
  rw [hl] at y1
  rw [← e]
  rcases wipe_cases h kind ho y y0 y1 with e | ⟨_, hF, b, e⟩ | ⟨_, _, v, e, hv⟩
  · rw [e]; exact h.ok _ (rd_mem_cells l y y0 y1)
  · rw [e]; exact okC_setM b _ hF (h.ok _ (rd_mem_cells l y y0 y1))
  · rw [e]; exact hv
theorem wipeW_zero {l : List S35} {cu : Int} {lo : Bool} {kind : Int} (h : wipeW l cu lo kind = 0) : 12 ≤ kind ∧ kind ≤ 14 ∧ lo = false ∧ (kind ≠ 14 → openI l cu = true) := by
  unfold wipeW at h
  split at h
  · cases h
  split at h
  · cases h
  split at h
  · rename_i h1 h2 h3; exact ⟨by omega, by omega, by simpa using h2, fun h' => absurd h3 h'⟩
  split at h
  · rename_i h1 h2 h3 h4; exact ⟨by omega, by omega, by simpa using h2, fun _ => h4⟩
  · cases h
theorem wipeF_ok {r c : Int} {l : List S35} {cu : Int} {lo ins : Bool} {kind : Int} (h : wipeW l cu lo kind = 0) : wipeF r c l cu lo ins kind = (r, c, wipeI l cu kind, if kind = 14 then homeI l else cu, lo, ins, none, []) := by unfold wipeF; rw [if_pos h]
theorem wipeF_err {r c : Int} {l : List S35} {cu : Int} {lo ins : Bool} {kind : Int} (h : ¬ wipeW l cu lo kind = 0) : ∃ lo' e s, wipeF r c l cu lo ins kind = (r, c, l, cu, lo', ins, some e, s) := by
  unfold wipeF; rw [if_neg h]; split
  · exact ⟨_, _, _, rfl⟩
  · exact ⟨_, _, _, rfl⟩
end Go.Proofs.YtggecanpjkpkiaaDoor.P
namespace Go.Proofs.YtggecanpjkpkiaaDoor.P
open Go.RowKit Go.Proofs.YtggecanpjkpkiaaDoorW.PrintWords Go.Proofs.YtggecanpjkpkiaaDoorW.PrintLast
set_option linter.unusedVariables false
set_option linter.unusedSimpArgs false
theorem takeW_alike {p q : Int → Bool} {g : Nat → Int} (h : ∀ j, p (g j) = q (g j)) : ∀ c s, takeW p g c s = takeW q g c s
  | 0, s => rfl
  | c + 1, s => by unfold takeW; rw [h s, takeW_alike h c]
theorem SameF.cells {l l' : List S35} (h : SameF l l') (hp : 0 < l.length) (x : Int) : cellsI l' x = cellsI l x := by
  unfold cellsI
  rw [h.begin hp, h.len, takeW_alike (q := isF l) (fun j => h.f _ (way_nn _ hp _ _ _))]
theorem SameF.row {l l' : List S35} (h : SameF l l') (hp : 0 < l.length) (x : Int) (x0 : 0 ≤ x) : rowI l' x = rowI l x := by
  unfold rowI; rw [h.open hp x x0, h.cells hp]
theorem SameF.ent {l l' : List S35} (h : SameF l l') (hp : 0 < l.length) (y : Int) (y0 : 0 ≤ y) : entI l' y = entI l y := by
  unfold entI
  rw [h.f y y0, h.len, h.f _ (onI_nonneg hp y 1)]
  cases hF : isF l y with
  | false => rfl
  | true =>
    have : protI l' y = protI l y := h.a0 y y0 hF
    rw [this]
theorem SameF.next {l l' : List S35} (h : SameF l l') (hp : 0 < l.length) (a : Int) : nextI l' a = nextI l a := by
  unfold nextI firstI
  rw [h.len, findW_alike (q := entI l) (fun j => h.ent hp _ (way_nn _ hp _ _ _))]
theorem SameF.home {l l' : List S35} (h : SameF l l') (hp : 0 < l.length) : homeI l' = homeI l := by
  unfold homeI; rw [h.next hp, h.len]
theorem SameF.refl (l : List S35) : SameF l l := ⟨rfl, fun _ _ => rfl, fun _ _ _ => rfl, fun _ _ _ => rfl⟩
theorem rd_over (l : List S35) (y : Int) (h : (l.length : Int) ≤ y) : rd_T35 l y = z35 := by
  simp only [rd_T35, List.getD_eq_getElem?_getD]
  rw [List.getElem?_eq_none (by omega)]; rfl
theorem reset_f (all : Bool) (c : S35) : (resetC all c).f0 = c.f0 ∧ (resetC all c).f1.f0 = c.f1.f0 ∧ (resetC all c).f1.f1 = c.f1.f1 := by unfold resetC; split <;> exact ⟨rfl, rfl, rfl⟩
theorem sameF_all (l : List S35) : SameF l (allI l) := by
  have hl := allI_length l
  have h : ∀ y : Int, 0 ≤ y → (rd_T35 (allI l) y).f0 = (rd_T35 l y).f0 ∧ (rd_T35 (allI l) y).f1.f0 = (rd_T35 l y).f1.f0 ∧ (rd_T35 (allI l) y).f1.f1 = (rd_T35 l y).f1.f1 := fun y y0 => by
    by_cases hy : y < l.length
    · rw [allI_rd l y y0 hy]
      split
      · exact reset_f false _
      · exact reset_f false _
    · rw [rd_over l y (by omega), rd_over (allI l) y (by omega)]; exact ⟨rfl, rfl, rfl⟩
  exact ⟨hl, fun y y0 => (h y y0).1, fun y y0 _ => (h y y0).2.1, fun y y0 _ => (h y y0).2.2⟩
theorem reset_twice (c : S35) : resetC false (resetC false c) = resetC false c := by
  obtain ⟨c0, ⟨c1, c2, c3, c4⟩, c5⟩ := c
  cases c1 <;> rfl
theorem reset_char (c : S35) : charC (resetC false (charC (resetC false c) 0)) 0 = charC (resetC false c) 0 := by
  obtain ⟨c0, ⟨c1, c2, c3, c4⟩, c5⟩ := c
  cases c1 <;> rfl
theorem all_twice (l : List S35) (hp : 0 < l.length) : allI (allI l) = allI l := by
  have hl := allI_length l
  refine cells_ext (by rw [allI_length, allI_length]) (fun y y0 y1 => ?_)
  rw [allI_length, hl] at y1
  rw [allI_rd (allI l) y y0 (by omega), allI_rd l y y0 y1, (sameF_all l).open hp y y0]
  by_cases ho : openI l y = true
  · rw [if_pos ho, if_pos ho]; exact reset_char _
  · rw [if_neg ho, if_neg ho]; exact reset_twice _
/-- a line that is wiped, cell by cell -/
theorem line_rd (l : List S35) (cu kind : Int) (c0 : 0 ≤ cu) (c1 : cu < l.length) (h14 : kind ≠ 14) (ho : openI l cu = true) :
    (∀ i : Nat, i < (rowI l cu).length → rd_T35 (wipeI l cu kind) (rd (rowI l cu) (i : Int)) = charC (rd_T35 l (rd (rowI l cu) (i : Int))) (wipeV kind l (rowI l cu) (i : Int))) ∧ (∀ y : Int, 0 ≤ y → (∀ i : Nat, i < (rowI l cu).length → rd (rowI l cu) (i : Int) ≠ y) → rd_T35 (wipeI l cu kind) y = rd_T35 (modI l cu) y) := by
  have hp : 0 < l.length := by omega
  obtain ⟨hnd, hr, _, _⟩ := row_open c0 c1 ho
  obtain ⟨w1, w2⟩ := wipeL_rd (wipeV kind l (rowI l cu)) (rowI l cu) hnd l.length (fun x hx => ⟨(hr x hx).1, (hr x hx).2.1⟩) (rowI l cu).length 0 (modI l cu) (modI_length l cu) (by omega)
  rw [show ((0 : Nat) : Int) = 0 from rfl] at w1 w2
  unfold wipeI; rw [if_neg h14]
  refine ⟨fun i hi => ?_, fun y y0 hy => w2 y y0 (fun i _ h2 => hy i (by omega))⟩
  obtain ⟨x0, _, xF, _⟩ := hr _ (rd_mem (rowI l cu) i hi)
  rw [w1 i (by omega) (by omega), modI_rd l cu hp _ x0 xF]
theorem sameF_wipe (l : List S35) (cu kind : Int) (c0 : 0 ≤ cu) (c1 : cu < l.length) (h14 : kind ≠ 14) (ho : openI l cu = true) : SameF l (wipeI l cu kind) := by
  have hp : 0 < l.length := by omega
  obtain ⟨hnd, hr, _, _⟩ := row_open c0 c1 ho
  obtain ⟨w1, w2⟩ := line_rd l cu kind c0 c1 h14 ho
  refine (sameF_mod l cu hp).trans (sameF_of (by rw [wipeI_length, modI_length]) (fun y y0 => ?_))
  by_cases hin : ∃ i : Nat, i < (rowI l cu).length ∧ rd (rowI l cu) (i : Int) = y
  · obtain ⟨i, hi, e⟩ := hin
    obtain ⟨x0, _, xF, _⟩ := hr _ (rd_mem (rowI l cu) i hi)
    rw [e] at x0 xF
    refine .inr ⟨by rw [(sameF_mod l cu hp).f y y0]; exact xF, ?_⟩
    have := w1 i hi
    rw [e] at this
    unfold isF; rw [this]; exact xF
  · exact .inl (w2 y y0 (fun i hi e => hin ⟨i, hi, e⟩))
theorem mod_twice (c : S35) : modC (modC c) = modC c := rfl
theorem char_char (c : S35) (v w : Int) : charC (charC c v) w = charC c w := rfl
theorem end_twice (l : List S35) (cu : Int) (c0 : 0 ≤ cu) (c1 : cu < l.length) (ho : openI l cu = true) : wipeI (wipeI l cu 13) cu 13 = wipeI l cu 13 := by
  have hp : 0 < l.length := by omega
  have hS := sameF_wipe l cu 13 c0 c1 (by decide) ho
  have hl := wipeI_length l cu 13
  have ho' : openI (wipeI l cu 13) cu = true := by rw [hS.open hp cu c0]; exact ho
  obtain ⟨w1, w2⟩ := line_rd l cu 13 c0 c1 (by decide) ho
  obtain ⟨v1, v2⟩ := line_rd (wipeI l cu 13) cu 13 c0 (by omega) (by decide) ho'
  rw [hS.row hp cu c0] at v1 v2
  have hv : ∀ (L : List S35) (x : Int), wipeV 13 L (rowI l cu) x = 0 := fun L x => by unfold wipeV; rw [if_neg (fun h => absurd h.1 (by decide))]
  refine cells_ext (by rw [wipeI_length]) (fun y y0 y1 => ?_)
  by_cases hin : ∃ i : Nat, i < (rowI l cu).length ∧ rd (rowI l cu) (i : Int) = y
  · obtain ⟨i, hi, e⟩ := hin
    have a1 := v1 i hi
    have a2 := w1 i hi
    rw [e, hv] at a1 a2
    rw [a1, a2]; rfl
  · have hny : ∀ i : Nat, i < (rowI l cu).length → rd (rowI l cu) (i : Int) ≠ y := fun i hi e => hin ⟨i, hi, e⟩
    rw [v2 y y0 hny]
    rcases modI_cases (wipeI l cu 13) cu (by omega) y y0 with ⟨e1, _, e3⟩ | ⟨_, e⟩
    · rw [e3, w2 y y0 hny]
      rw [hS.begin hp] at e1
      rcases modI_cases l cu hp y y0 with ⟨_, _, e⟩ | ⟨e, _⟩
      · rw [e]; rfl
      · exact absurd e1 e
    · exact e
/-- behind i deletions -/
structure DelI (l : List S35) (cu : Int) (i : Nat) (T : List S35) : Prop where
  same : SameF l T
  line : ∀ j : Nat, j < (rowI l cu).length → rd_T35 T (rd (rowI l cu) (j : Int)) = charC (rd_T35 l (rd (rowI l cu) (j : Int))) (if j + i < (rowI l cu).length then (rd_T35 l (rd (rowI l cu) ((j + i : Nat) : Int))).f2 else 0)
  rest : ∀ y : Int, 0 ≤ y → (∀ j : Nat, j < (rowI l cu).length → rd (rowI l cu) (j : Int) ≠ y) → rd_T35 T y = if i = 0 then rd_T35 l y else rd_T35 (modI l cu) y
theorem del_zero (l : List S35) (cu : Int) : DelI l cu 0 l :=
  ⟨SameF.refl l, fun j hj => by rw [if_pos (by omega)]; rfl, fun y _ _ => by rw [if_pos rfl]⟩
theorem del_step {l : List S35} {cu : Int} {i : Nat} {T : List S35} (h : DelI l cu i T) (c0 : 0 ≤ cu) (c1 : cu < l.length) (ho : openI l cu = true) : DelI l cu (i + 1) (wipeI T cu 12) := by
  have hp : 0 < l.length := by omega
  have hlT := h.same.len
  have hoT : openI T cu = true := by rw [h.same.open hp cu c0]; exact ho
  obtain ⟨w1, w2⟩ := line_rd T cu 12 c0 (by omega) (by decide) hoT
  rw [h.same.row hp cu c0] at w1 w2
  refine ⟨h.same.trans (sameF_wipe T cu 12 c0 (by omega) (by decide) hoT), fun j hj => ?_, fun y y0 hy => ?_⟩
  · rw [w1 j hj, h.line j hj, char_char]
    congr 1
    unfold wipeV
    by_cases hj1 : j + 1 < (rowI l cu).length
    · rw [if_pos ⟨rfl, by omega⟩]
      have := h.line (j + 1) hj1
      rw [show ((j + 1 : Nat) : Int) = (j : Int) + 1 by omega] at this
      rw [this]
      show (if j + 1 + i < (rowI l cu).length then _ else _) = _
      rw [show j + 1 + i = j + (i + 1) by omega]
    · rw [if_neg (by omega), if_neg (by omega)]
  · rw [w2 y y0 hy, if_neg (by omega)]
    rcases modI_cases T cu (by omega) y y0 with ⟨e1, _, e3⟩ | ⟨e1, e⟩
    · rw [e3, h.rest y y0 hy]
      rw [h.same.begin hp] at e1
      rcases modI_cases l cu hp y y0 with ⟨_, _, e⟩ | ⟨e, _⟩
      · split
        · exact e.symm
        · rw [e]; rfl
      · exact absurd e1 e
    · rw [e, h.rest y y0 hy]
      split
      · rw [h.same.begin hp] at e1
        rcases modI_cases l cu hp y y0 with ⟨e2, _, _⟩ | ⟨_, e2⟩
        · exact absurd e2 e1
        · exact e2.symm
      · rfl
theorem del_end {l : List S35} {cu : Int} {T : List S35} (h : DelI l cu (rowI l cu).length T) (c0 : 0 ≤ cu) (c1 : cu < l.length) (ho : openI l cu = true) : T = wipeI l cu 13 := by
  obtain ⟨_, _, hn, _⟩ := row_open c0 c1 ho
  obtain ⟨w1, w2⟩ := line_rd l cu 13 c0 c1 (by decide) ho
  refine cells_ext (by rw [wipeI_length]; exact h.same.len) (fun y y0 y1 => ?_)
  by_cases hin : ∃ i : Nat, i < (rowI l cu).length ∧ rd (rowI l cu) (i : Int) = y
  · obtain ⟨i, hi, e⟩ := hin
    have a1 := h.line i hi
    have a2 := w1 i hi
    rw [e] at a1 a2
    rw [if_neg (by omega)] at a1
    rw [show wipeV 13 l (rowI l cu) (i : Int) = 0 by unfold wipeV; rw [if_neg (fun h => absurd h.1 (by decide))]] at a2
    rw [a1, a2]
  · have hny : ∀ i : Nat, i < (rowI l cu).length → rd (rowI l cu) (i : Int) ≠ y := fun i hi e => hin ⟨i, hi, e⟩
    rw [h.rest y y0 hny, w2 y y0 hny, if_neg (by omega)]
end Go.Proofs.YtggecanpjkpkiaaDoor.P
namespace Go.Proofs.YtggecanpjkpkiaaDoor.P
open Go.RowKit Go.Proofs.YtggecanpjkpkiaaDoorW.PrintWords Go.Proofs.YtggecanpjkpkiaaDoorW.PrintLast
set_option linter.unusedVariables false
set_option linter.unusedSimpArgs false
theorem awake16_30 : shutterlaw16_awake.f 30 = some true := by decide +kernel
theorem awake16_eq (k : Nat) (hk : 30 ≤ k) : shutterlaw16_awake.f k = some true := by
  obtain ⟨d, rfl⟩ : ∃ d, k = 30 + d := ⟨k - 30, by omega⟩
  clear hk
  induction d with
  | zero => exact awake16_30
  | succ d ih => exact shutterlaw16_awake.mono _ _ ih
end Go.Proofs.YtggecanpjkpkiaaDoor.P
namespace Go.Proofs.YtggecanpjkpkiaaDoor.P
open Go.RowKit Go.Proofs.YtggecanpjkpkiaaDoorW.PrintWords Go.Proofs.YtggecanpjkpkiaaDoorW.PrintLast
set_option linter.unusedVariables false
set_option linter.unusedSimpArgs false
theorem indexW_from (p : Int → Bool) : ∀ (L : List Int) (i : Int), 0 ≤ i → (indexW p L i = -1 ∧ ∀ x ∈ L, p x = false) ∨ ∃ j : Nat, j < L.length ∧ indexW p L i = i + j ∧ p (rd L j) = true ∧ ∀ m : Nat, m < j → p (rd L m) = false
  | [], i, h => .inl ⟨rfl, fun x hx => by cases hx⟩
  | x :: xs, i, h => by
    unfold indexW
    by_cases hx : p x = true
    · rw [if_pos hx]
      exact .inr ⟨0, by simp, by omega, by simpa [rd] using hx, fun m hm => by omega⟩
    · rw [if_neg hx]
      rcases indexW_from p xs (i + 1) (by omega) with ⟨h1, h2⟩ | ⟨j, h1, h2, h3, h4⟩
      · exact .inl ⟨h1, fun y hy => by
          rcases List.mem_cons.1 hy with rfl | hy
          · simpa using hx
          · exact h2 y hy⟩
      · refine .inr ⟨j + 1, by simpa using h1, by omega, by simpa [rd] using h3, fun m hm => ?_⟩
        cases m with
        | zero => simpa [rd] using hx
        | succ m => have := h4 m (by omega); simpa [rd] using this
/-- the first cell of a line without a character -/
def freeI (l : List S35) (a : Int) : Int := indexW (emptyC l) (rowI l a) 0
theorem free_range (l : List S35) (a : Int) : freeI l a = -1 ∨ ∃ j : Nat, j < (rowI l a).length ∧ freeI l a = j ∧ emptyC l (rd (rowI l a) j) = true ∧ ∀ m : Nat, m < j → emptyC l (rd (rowI l a) m) = false := by
  rcases indexW_from (emptyC l) (rowI l a) 0 (Int.le_refl _) with ⟨h, _⟩ | ⟨j, h1, h2, h3, h4⟩
  · exact .inl h
  · exact .inr ⟨j, h1, by unfold freeI; omega, h3, h4⟩
/-! what is pushed on -/
def shiftD (row : List Int) : Nat → List S35 → List S35
  | 0, L => L
  | x + 1, L => shiftD row x (L.set (rd row ((x + 1 : Nat) : Int)).toNat (rd_T35 L (rd row (x : Int))))
theorem shiftD_length (row : List Int) : ∀ x L, (shiftD row x L).length = L.length
  | 0, L => rfl
  | x + 1, L => by unfold shiftD; rw [shiftD_length row x, List.length_set]
theorem shiftD_rd (row : List Int) (hn : row.Nodup) (n : Nat) (hr : ∀ x ∈ row, 0 ≤ x ∧ x < n) : ∀ (x : Nat) (L : List S35), L.length = n → x < row.length →
    (∀ i : Nat, 1 ≤ i → i ≤ x → rd_T35 (shiftD row x L) (rd row (i : Int)) = rd_T35 L (rd row ((i - 1 : Nat) : Int))) ∧ (∀ y : Int, 0 ≤ y → (∀ i : Nat, 1 ≤ i → i ≤ x → rd row (i : Int) ≠ y) → rd_T35 (shiftD row x L) y = rd_T35 L y)
  | 0, L, hL, hx => ⟨fun i h1 h2 => by omega, fun y _ _ => rfl⟩
  | x + 1, L, hL, hx => by
    have hm := hr _ (rd_mem row (x + 1) hx)
    obtain ⟨i1, i2⟩ := shiftD_rd row hn n hr x (L.set (rd row ((x + 1 : Nat) : Int)).toNat (rd_T35 L (rd row (x : Int)))) (by rw [List.length_set]; exact hL) (by omega)
    have hs := fun y (y0 : 0 ≤ y) => rd_set L (rd row ((x + 1 : Nat) : Int)) y (rd_T35 L (rd row (x : Int))) hm.1 (by omega) y0
    unfold shiftD
    refine ⟨fun i h1 h2 => ?_, fun y y0 hy => ?_⟩
    · by_cases e : i = x + 1
      · subst e
        rw [i2 _ hm.1 (fun j j1 j2 he => by have := rd_inj hn (by omega) hx he; omega), hs _ hm.1, if_pos rfl]
        simp
      · rw [i1 i h1 (by omega), hs _ (hr _ (rd_mem row (i - 1) (by omega))).1, if_neg (fun he => by have := rd_inj hn hx (by omega) he; omega)]
    · rw [i2 y y0 (fun j j1 j2 => hy j j1 (by omega)), hs y y0, if_neg (hy (x + 1) (by omega) (Nat.le_refl _))]
theorem pushed_loop (row : List Int) (hrow : row.length ≤ 16383) (n : Nat) (hr : ∀ x ∈ row, 0 ≤ x ∧ x < n) (r c cu : Int) (lo ins : Bool) : ∀ (x K : Nat) (L : List S35), L.length = n → x < row.length → x < K → edit_pushed.l0 K row x r c L cu lo ins = some (true, shiftD row x L)
  | 0, K, L, hL, hx, hk => by
    obtain ⟨K, rfl⟩ : ∃ m, K = m + 1 := ⟨K - 1, by omega⟩
    rw [edit_pushed.l0, if_neg (by omega)]; rfl
  | x + 1, K, L, hL, hx, hk => by
    obtain ⟨K, rfl⟩ : ∃ m, K = m + 1 := ⟨K - 1, by omega⟩
    have h1 := hr _ (rd_mem row (x + 1) hx)
    have h0 := hr _ (rd_mem row x (by omega))
    have e : wrap64 (((x + 1 : Nat) : Int) - 1) = (x : Int) := by rw [w64 (by omega)]; omega
    rw [edit_pushed.l0, if_pos (by omega), if_pos (by omega), if_pos (by omega), e, if_pos (by omega), if_pos (by omega), if_pos h0.1, if_pos (by omega), if_pos h1.1, if_pos (by omega)]
    exact pushed_loop row hrow n hr r c cu lo ins x K _ (by rw [List.length_set]; exact hL) (by omega) (by omega)
theorem emptyC_mod (l : List S35) (a : Int) (hp : 0 < l.length) (x : Int) (x0 : 0 ≤ x) : emptyC (modI l a) x = emptyC l x := by
  unfold emptyC modI
  rcases begin_range l a hp with hb | ⟨b0, b1, _⟩
  · rw [hb, if_neg (by decide)]
  · rw [if_pos b0, rd_set l _ x _ b0 b1 x0]
    split
    · rename_i h; subst h; rfl
    · rfl
theorem indexW_congr (p q : Int → Bool) : ∀ (L : List Int) (i : Int), (∀ x ∈ L, p x = q x) → indexW p L i = indexW q L i
  | [], i, h => rfl
  | x :: xs, i, h => by
    unfold indexW; rw [h x List.mem_cons_self, indexW_congr p q xs (i + 1) (fun y hy => h y (List.mem_cons_of_mem _ hy))]
/-- the cells, pushed on where it was asked for -/
def pushI (l : List S35) (cu : Int) (ins : Bool) : List S35 := if ins = true then shiftD (rowI l cu) (freeI l cu).toNat (modI l cu) else modI l cu
theorem pushI_length (l : List S35) (cu : Int) (ins : Bool) : (pushI l cu ins).length = l.length := by
  unfold pushI; split
  · rw [shiftD_length, modI_length]
  · exact modI_length l cu
theorem fpushed_eq (K : Nat) (r c : Int) (l : List S35) (cu : Int) (lo ins : Bool) (a : Int) (hn : l.length ≤ 16383) (a0 : 0 ≤ a) (a1 : a < l.length) (ho : openI l a = true) (hk : l.length < K) :
    edit_pushed.f K r c (modI l a) cu lo ins (rowI l a) = some (if freeI l a < 0 then (false, modI l a) else (true, shiftD (rowI l a) (freeI l a).toNat (modI l a))) := by
  obtain ⟨hnd, hr, _, _⟩ := row_open a0 a1 ho
  have hl := row_len l a
  have hml := modI_length l a
  have e : indexW (emptyC (modI l a)) (rowI l a) 0 = freeI l a := indexW_congr _ _ _ _ (fun x hx => emptyC_mod l a (by omega) x (hr x hx).1)
  have hi : pushed_index.f (rowI l a) r c (modI l a) cu lo ins = some (freeI l a) := by
    unfold pushed_index.f
    rw [if_pos (by omega), if_pos (List.all_eq_true.2 (fun x hx => by have := hr x hx; rw [Bool.and_eq_true]; exact ⟨decide_eq_true this.1, decide_eq_true (by omega)⟩)), e]
  unfold edit_pushed.f
  rw [hi, Option.bind_some]
  rcases free_range l a with h | ⟨j, h1, h2, _, _⟩
  · rw [h, if_pos (by decide), if_pos (by decide)]
  · rw [h2, if_neg (by omega), if_neg (by omega), Int.toNat_natCast]
    exact pushed_loop (rowI l a) (by omega) l.length (fun x hx => ⟨(hr x hx).1, (hr x hx).2.1⟩) r c cu lo ins j K _ hml h1 (by omega)
/-! where the cursor goes -/
def numI (l : List S35) (i : Int) : Bool := (rd_T35 l i).f1.f1
def onwardI (l : List S35) (cu : Int) : Int :=
  if isF l (onI l.length cu 1) = true then (if protI l (onI l.length cu 1) = true ∧ numI l (onI l.length cu 1) = true ∧ 0 ≤ nextI l (onI l.length cu 1) then nextI l (onI l.length cu 1) else onI l.length (onI l.length cu 1) 1) else onI l.length cu 1
theorem fonward_eq (K : Nat) (r c : Int) (l : List S35) (cu : Int) (lo ins : Bool) (hn : l.length ≤ 16383) (c0 : 0 ≤ cu) (c1 : cu < l.length) (hk : 1 < K) : edit_onward.f K r c l cu lo ins = some (onwardI l cu) := by
  obtain ⟨K, rfl⟩ : ∃ m, K = m + 1 := ⟨K - 1, by omega⟩
  have o0 := onI_nonneg (n := l.length) (by omega) cu 1
  have o1 := onI_lt (n := l.length) (by omega) cu 1
  unfold edit_onward.f onwardI isF protI numI
  rw [fOn_eq r c l cu lo ins cu 1 hn c0 c1, Option.bind_some, if_pos o0, if_pos o1]
  by_cases hF : (rd_T35 l (onI l.length cu 1)).f0 = true
  · rw [if_pos hF, if_pos hF]
    by_cases hP : (rd_T35 l (onI l.length cu 1)).f1.f0 = true
    · rw [if_pos hP, edit_onward.j0]
      by_cases hN : (rd_T35 l (onI l.length cu 1)).f1.f1 = true
      · rw [if_pos hN, fNext_eq r c l cu lo ins _ hn o0 o1, Option.bind_some]
        by_cases hx : nextI l (onI l.length cu 1) ≥ 0
        · rw [if_pos hx, if_pos ⟨hP, hN, hx⟩]
        · rw [if_neg hx, if_neg (fun h => hx h.2.2), fOn_eq r c l cu lo ins _ 1 hn o0 o1, Option.bind_some]
      · rw [if_neg hN, if_neg (fun h => hN h.2.1), fOn_eq r c l cu lo ins _ 1 hn o0 o1, Option.bind_some]
    · rw [if_neg hP, edit_onward.j0, if_neg (by decide), if_neg (fun h => hP h.1), fOn_eq r c l cu lo ins _ 1 hn o0 o1, Option.bind_some]
  · rw [if_neg hF, if_neg hF]
/-! a letter -/
def letterI (a : Int) : Bool := !(a == 0) && (a == 28 || (a == 30 || (decide (64 ≤ a) && decide (a ≤ 254))))
theorem rLetter_eq (a : Int) (a0 : 0 ≤ a) (a1 : a ≤ 255) : shutterref09_Letter.f a = some (letterI a) := by
  unfold shutterref09_Letter.f letterI shutterref05_Char.f
  by_cases e0 : a = 0
  · rw [if_pos e0]; simp [e0]
  · by_cases e1 : a = 28
    · subst e1; rfl
    · by_cases e2 : a = 30
      · subst e2; rfl
      · by_cases e3 : a ≥ 64
        · rw [if_neg e0, if_neg e0, if_neg e1, if_neg e2, if_pos e3, Option.bind_some]
          congr 1
          rw [beq_eq_false_iff_ne.2 e0, beq_eq_false_iff_ne.2 e1, beq_eq_false_iff_ne.2 e2, decide_eq_true (show 64 ≤ a from e3)]
          simp
        · rw [if_neg e0, if_neg e0, if_neg e1, if_neg e2, if_neg e3, Option.bind_some, beq_eq_false_iff_ne.2 e1, beq_eq_false_iff_ne.2 e2, decide_eq_false (show ¬ 64 ≤ a from e3)]; simp
theorem fChar_eq (a : Int) (a0 : 0 ≤ a) (a1 : a ≤ 255) (h : ¬ a = 0) : attr_Char.f a = some (letterI a) := by
  have := rLetter_eq a a0 a1
  unfold shutterref09_Letter.f at this
  rw [if_neg h] at this
  rw [← this]
  unfold attr_Char.f shutterref05_Char.f
  by_cases e1 : a = 28
  · subst e1; rfl
  · by_cases e2 : a = 30
    · subst e2; rfl
    · by_cases e3 : a ≥ 64
      · rw [if_neg h, if_neg e1, if_neg e2, if_pos e3, if_neg h, if_neg e1, if_neg e2, if_pos e3, Option.bind_some]
        congr 1
        by_cases e4 : a = 255
        · subst e4; rfl
        · rw [bne_iff_ne.2 e4]; simp; omega
      · rw [if_neg h, if_neg e1, if_neg e2, if_neg e3, if_neg h, if_neg e1, if_neg e2, if_neg e3]; rfl
def digitI (a : Int) : Bool := (decide (240 ≤ a) && decide (a ≤ 249)) || (a == 96 || a == 75)
theorem digit_eq (a : Int) : edit_Digit.f a = some (digitI a) := by
  unfold edit_Digit.f digitI
  by_cases h1 : a ≥ 240
  · by_cases h2 : a ≤ 249
    · rw [if_pos h1, if_pos h2, decide_eq_true (show 240 ≤ a from h1), decide_eq_true h2]; rfl
    · rw [if_pos h1, if_neg h2, if_neg (by omega), decide_eq_false h2]; simp; omega
  · rw [if_neg h1, decide_eq_false (show ¬ 240 ≤ a from h1)]
    by_cases h3 : a = 96
    · rw [if_pos h3, h3]; rfl
    · rw [if_neg h3, beq_eq_false_iff_ne.2 h3]; simp
/-- why a letter is refused; 0: it isn't -/
def whyI (l : List S35) (cu : Int) (lo ins : Bool) (a : Int) : Int :=
  if letterI a = false then 3 else if lo = true then 7 else if openI l cu = false then 8
  else if (ofI l cu).f1 = true ∧ digitI a = false ∧ a ≠ 28 ∧ a ≠ 30 then 9 else if ins = true ∧ freeI l cu < 0 then 10 else 0
/-- the cells behind a letter that is typed -/
def outI (l : List S35) (cu : Int) (ins : Bool) (a : Int) : List S35 := (pushI l cu ins).set (cu : Int).toNat (newC a)
theorem outI_length (l : List S35) (cu : Int) (ins : Bool) (a : Int) : (outI l cu ins a).length = l.length := by unfold outI; rw [List.length_set, pushI_length]
def typeF (r c : Int) (l : List S35) (cu : Int) (lo ins : Bool) (a : Int) : Int × Int × List S35 × Int × Bool × Bool × Option Er × List S164 :=
  if whyI l cu lo ins a = 0 then (r, c, outI l cu ins a, onwardI (outI l cu ins a) cu, lo, ins, none, [])
  else if whyI l cu lo ins a = 3 ∨ whyI l cu lo ins a = 7 then (r, c, l, cu, lo, ins, some (Er.num (whyI l cu lo ins a)), [])
  else (r, c, l, cu, true, ins, some Er.spot, [⟨cu, whyI l cu lo ins a⟩])
theorem ffits_eq (K : Nat) (r c : Int) (l : List S35) (cu : Int) (lo ins : Bool) (a : Int) (hn : l.length ≤ 16383) (c0 : 0 ≤ cu) (c1 : cu < l.length) (hk : 1 < K) :
    edit_fits.f K r c l cu lo ins a = some (if openI l cu = false then some (Er.num 8) else if (ofI l cu).f1 = true ∧ digitI a = false ∧ a ≠ 28 ∧ a ≠ 30 then some (Er.num 9) else none, []) := by
  obtain ⟨K, rfl⟩ : ∃ m, K = m + 1 := ⟨K - 1, by omega⟩
  unfold edit_fits.f
  rw [fOpen_eq r c l cu lo ins cu hn c0 c1, Option.bind_some]
  cases ho : openI l cu with
  | false => rw [if_neg ff_, if_pos rfl]
  | true =>
    rw [if_pos rfl, if_neg tf_]
    have hj : ∀ b, edit_fits.j0 (K + 1) a b r c l cu lo ins = some (if b = true then none else if (ofI l cu).f1 = true ∧ digitI a = false then some (Er.num 9) else none, []) := by
      intro b
      rw [edit_fits.j0]
      cases b with
      | true => rfl
      | false =>
        rw [if_neg ff_, if_neg ff_, fOf_eq r c l cu lo ins cu hn c0 c1, Option.bind_some, digit_eq, Option.bind_some]
        simp only
        by_cases h1 : (ofI l cu).f1 = true
        · rw [if_pos h1]
          cases hd : digitI a
          · rw [if_neg ff_, if_pos ⟨h1, rfl⟩]
          · rw [if_pos rfl, if_neg (fun h => by cases h.2)]
        · rw [if_neg h1, if_neg (fun h => h1 h.1)]
    by_cases h28 : a = 28
    · rw [if_pos h28, hj, if_pos rfl, if_neg (fun h => h.2.2.1 h28)]
    · rw [if_neg h28, hj]
      by_cases h30 : a = 30
      · rw [if_pos (by simp [h30]), if_neg (fun h => h.2.2.2 h30)]
      · rw [if_neg (by simpa using h30)]
        by_cases h : (ofI l cu).f1 = true ∧ digitI a = false
        · rw [if_pos h, if_pos ⟨h.1, h.2, h28, h30⟩]
        · rw [if_neg h, if_neg (fun h' => h ⟨h'.1, h'.2.1⟩)]
theorem fType_eq (K : Nat) (r c : Int) (l : List S35) (cu : Int) (lo ins : Bool) (a : Int) (hn : l.length ≤ 16383) (c0 : 0 ≤ cu) (c1 : cu < l.length) (a0 : 0 ≤ a) (a1 : a ≤ 255) (hk : l.length + 4 < K) : edit_Type.f K r c l cu lo ins a = some (typeF r c l cu lo ins a) := by
  obtain ⟨K, rfl⟩ : ∃ m, K = m + 1 := ⟨K - 1, by omega⟩
  have hj1 : ∀ b, edit_Type.j1 K a b r c l cu lo ins r c (pushI l cu ins) cu lo ins = if b = true then some (r, c, l, cu, true, ins, some Er.spot, [⟨cu, 10⟩]) else some (r, c, outI l cu ins a, onwardI (outI l cu ins a) cu, lo, ins, none, []) := by
    intro b
    obtain ⟨K, rfl⟩ : ∃ m, K = m + 1 := ⟨K - 1, by omega⟩
    rw [edit_Type.j1]
    cases b with
    | true => rw [if_pos rfl, if_pos rfl, fDeny_eq r c l cu lo ins 10 [] hn, Option.bind_some]
    | false =>
      rw [if_neg ff_, if_neg ff_, if_pos c0, if_pos (by rw [pushI_length]; exact c1), Option.bind_some]
      have := fonward_eq K r c (outI l cu ins a) cu lo ins (by rw [outI_length]; exact hn) c0 (by rw [outI_length]; exact c1) (by omega)
      unfold outI newC at this ⊢
      rw [this, Option.bind_some]
  have hj : ∀ b, edit_Type.j0 (K + 1) a b r c l cu lo ins = some (if b = true then (r, c, l, cu, lo, ins, some (Er.num 3), []) else if lo = true then (r, c, l, cu, lo, ins, some (Er.num 7), []) else if openI l cu = false then (r, c, l, cu, true, ins, some Er.spot, [⟨cu, 8⟩]) else if (ofI l cu).f1 = true ∧ digitI a = false ∧ a ≠ 28 ∧ a ≠ 30 then (r, c, l, cu, true, ins, some Er.spot, [⟨cu, 9⟩]) else if ins = true ∧ freeI l cu < 0 then (r, c, l, cu, true, ins, some Er.spot, [⟨cu, 10⟩]) else (r, c, outI l cu ins a, onwardI (outI l cu ins a) cu, lo, ins, none, [])) := by
    intro b
    rw [edit_Type.j0]
    cases b with
    | true => rw [if_pos rfl, if_pos rfl]
    | false =>
      rw [if_neg ff_, if_neg ff_]
      cases lo with
      | true => rfl
      | false =>
        rw [if_neg ff_, if_neg ff_, ffits_eq K r c l cu false ins a hn c0 c1 (by omega), Option.bind_some]
        simp only
        cases ho : openI l cu with
        | false => rw [if_pos rfl, if_pos rfl, if_neg (show ¬ ((some (Er.num 8)).isNone = true) by simp), show ((some (Er.num 8)).getD ez) = Er.num 8 from rfl, fDeny_eq r c l cu false ins 8 _ hn, Option.bind_some]
        | true =>
          rw [if_neg tf_, if_neg tf_]
          by_cases h9 : (ofI l cu).f1 = true ∧ digitI a = false ∧ a ≠ 28 ∧ a ≠ 30
          · rw [if_pos h9, if_pos h9, if_neg (show ¬ ((some (Er.num 9)).isNone = true) by simp), show ((some (Er.num 9)).getD ez) = Er.num 9 from rfl, fDeny_eq r c l cu false ins 9 _ hn, Option.bind_some]
          · rw [if_neg h9, if_neg h9, if_pos (show ((none : Option Er).isNone = true) by rfl), fModify_eq r c l cu false ins cu hn c0 c1, Option.bind_some]
            simp only
            cases ins with
            | false =>
              rw [if_neg ff_, if_neg (fun h => ff_ h.1)]
              have := hj1 false
              unfold pushI at this
              rw [if_neg ff_] at this
              rw [this, if_neg ff_]
            | true =>
              rw [if_pos rfl, fLine_eq K r c l cu false true cu hn c0 c1 (by omega), Option.bind_some, fpushed_eq K r c l cu false true cu hn c0 c1 ho (by omega), Option.bind_some]
              by_cases hf : freeI l cu < 0
              · rw [if_pos hf, if_pos ⟨rfl, hf⟩]
                have e : ∀ L, edit_Type.j1 K a true r c l cu false true r c L cu false true = some (r, c, l, cu, true, true, some Er.spot, [⟨cu, 10⟩]) := by
                  intro L
                  obtain ⟨K, rfl⟩ : ∃ m, K = m + 1 := ⟨K - 1, by omega⟩
                  rw [edit_Type.j1, if_pos rfl, fDeny_eq r c l cu false true 10 [] hn, Option.bind_some]
                exact e _
              · rw [if_neg hf, if_neg (fun h => hf h.2)]
                have := hj1 false
                unfold pushI at this
                rw [if_pos rfl] at this
                rw [if_neg ff_] at this
                exact this
  unfold edit_Type.f
  have hfin : ∀ b, b = !(letterI a) → edit_Type.j0 (K + 1) a b r c l cu lo ins = some (typeF r c l cu lo ins a) := by
    intro b hb
    subst hb
    rw [hj]
    unfold typeF whyI
    cases letterI a with
    | false => simp
    | true =>
      cases lo with
      | true => simp
      | false =>
        cases openI l cu with
        | false => simp
        | true =>
          by_cases h9 : (ofI l cu).f1 = true ∧ digitI a = false ∧ a ≠ 28 ∧ a ≠ 30
          · simp [h9]
          · by_cases h10 : ins = true ∧ freeI l cu < 0
            · simp only [h9, h10]; simp
            · simp only [h9, h10]; simp
  by_cases e0 : a = 0
  · rw [if_pos e0]; exact hfin true (by subst e0; rfl)
  · rw [if_neg e0, fChar_eq a a0 a1 e0, Option.bind_some]; exact hfin _ rfl
end Go.Proofs.YtggecanpjkpkiaaDoor.P
namespace Go.Proofs.YtggecanpjkpkiaaDoor.P
open Go.RowKit Go.Proofs.YtggecanpjkpkiaaDoorW.PrintWords Go.Proofs.YtggecanpjkpkiaaDoorW.PrintLast
set_option linter.unusedVariables false
set_option linter.unusedSimpArgs false
theorem sameF_set {l : List S35} (cu : Int) (c0 : 0 ≤ cu) (c1 : cu < l.length) (h : isF l cu = false) (a : Int) : SameF l (l.set (cu : Int).toNat (newC a)) := by
  refine sameF_of (by rw [List.length_set]) (fun y y0 => ?_)
  by_cases e : cu = y
  · subst e; right; exact ⟨h, by rw [isF_set l cu cu _ c0 c1 c0, if_pos rfl]; rfl⟩
  · left; rw [rd_set l cu y _ c0 c1 y0, if_neg e]
theorem why_zero {l : List S35} {cu : Int} {lo ins : Bool} {a : Int} (h : whyI l cu lo ins a = 0) : letterI a = true ∧ lo = false ∧ openI l cu = true ∧ ¬ ((ofI l cu).f1 = true ∧ digitI a = false ∧ a ≠ 28 ∧ a ≠ 30) ∧ ¬ (ins = true ∧ freeI l cu < 0) := by
  unfold whyI at h
  split at h
  · cases h
  split at h
  · cases h
  split at h
  · cases h
  split at h
  · cases h
  split at h
  · cases h
  rename_i h1 h2 h3 h4 h5
  exact ⟨by simpa using h1, by simpa using h2, by simpa using h3, h4, h5⟩
theorem typeF_ok {r c : Int} {l : List S35} {cu : Int} {lo ins : Bool} {a : Int} (h : whyI l cu lo ins a = 0) : typeF r c l cu lo ins a = (r, c, outI l cu ins a, onwardI (outI l cu ins a) cu, lo, ins, none, []) := by
  unfold typeF; rw [if_pos h]
theorem typeF_err {r c : Int} {l : List S35} {cu : Int} {lo ins : Bool} {a : Int} (h : ¬ whyI l cu lo ins a = 0) : (typeF r c l cu lo ins a).2.2.2.2.2.2.1.isNone = false := by
  unfold typeF; rw [if_neg h]; split <;> rfl
end Go.Proofs.YtggecanpjkpkiaaDoor.P
namespace Go.Proofs.YtggecanpjkpkiaaDoor.P
open Go.RowKit Go.Proofs.YtggecanpjkpkiaaDoorW.PrintWords Go.Proofs.YtggecanpjkpkiaaDoorW.PrintLast
set_option linter.unusedVariables false
set_option linter.unusedSimpArgs false
/-- a letter, typed where the first empty cell is the line's last one -/
structure InsI (l : List S35) (cu a : Int) (T : List S35) : Prop where
  len : T.length = l.length
  head : rd_T35 T (rd (rowI l cu) 0) = newC a
  line : ∀ i : Nat, i + 1 < (rowI l cu).length → rd_T35 T (rd (rowI l cu) ((i + 1 : Nat) : Int)) = rd_T35 l (rd (rowI l cu) (i : Int))
  rest : ∀ y : Int, 0 ≤ y → (∀ j : Nat, j < (rowI l cu).length → rd (rowI l cu) (j : Int) ≠ y) → rd_T35 T y = rd_T35 (modI l cu) y
theorem ins_of {l : List S35} {cu : Int} (a : Int) (c0 : 0 ≤ cu) (c1 : cu < l.length) (ho : openI l cu = true) (hf : freeI l cu = (((rowI l cu).length - 1 : Nat) : Int)) : InsI l cu a (outI l cu true a) := by
  have hp : 0 < l.length := by omega
  obtain ⟨hnd, hr, hn, hh⟩ := row_open c0 c1 ho
  have hr' : ∀ x ∈ rowI l cu, 0 ≤ x ∧ x < l.length := fun x hx => ⟨(hr x hx).1, (hr x hx).2.1⟩
  obtain ⟨s1, s2⟩ := shiftD_rd (rowI l cu) hnd l.length hr' ((rowI l cu).length - 1) (modI l cu) (modI_length l cu) (by omega)
  have hsl := shiftD_length (rowI l cu) ((rowI l cu).length - 1) (modI l cu)
  have hml := modI_length l cu
  have e : outI l cu true a = (shiftD (rowI l cu) ((rowI l cu).length - 1) (modI l cu)).set (cu : Int).toNat (newC a) := by unfold outI pushI; rw [if_pos rfl, hf]; rfl
  have hrd : ∀ y : Int, 0 ≤ y → rd_T35 (outI l cu true a) y = if cu = y then newC a else rd_T35 (shiftD (rowI l cu) ((rowI l cu).length - 1) (modI l cu)) y := fun y y0 => by rw [e]; exact rd_set _ cu y _ c0 (by omega) y0
  refine ⟨outI_length l cu true a, ?_, fun i hi => ?_, fun y y0 hy => ?_⟩
  · rw [hh, hrd cu c0, if_pos rfl]
  · obtain ⟨x0, _, _, _⟩ := hr _ (rd_mem (rowI l cu) (i + 1) hi)
    obtain ⟨z0, _, zF, _⟩ := hr _ (rd_mem (rowI l cu) i (by omega))
    rw [hrd _ x0, if_neg (fun he => by
      have h0 : rd (rowI l cu) ((0 : Nat) : Int) = rd (rowI l cu) ((i + 1 : Nat) : Int) := hh.trans he
      have := rd_inj hnd (by omega) hi h0
      omega), s1 (i + 1) (by omega) (by omega), show i + 1 - 1 = i by omega, modI_rd l cu hp _ z0 zF]
  · have hne : cu ≠ y := fun h => hy 0 hn (hh.trans h)
    rw [hrd y y0, if_neg hne, s2 y y0 (fun i _ h2 => hy i (by omega))]
theorem ins_same {l : List S35} {cu a : Int} {T : List S35} (h : InsI l cu a T) (c0 : 0 ≤ cu) (c1 : cu < l.length) (ho : openI l cu = true) : SameF l T := by
  have hp : 0 < l.length := by omega
  obtain ⟨hnd, hr, hn, hh⟩ := row_open c0 c1 ho
  refine (sameF_mod l cu hp).trans (sameF_of (by rw [h.len, modI_length]) (fun y y0 => ?_))
  by_cases hin : ∃ i : Nat, i < (rowI l cu).length ∧ rd (rowI l cu) (i : Int) = y
  · obtain ⟨i, hi, e⟩ := hin
    obtain ⟨x0, _, xF, _⟩ := hr _ (rd_mem (rowI l cu) i hi)
    rw [e] at x0 xF
    refine .inr ⟨by rw [(sameF_mod l cu hp).f y y0]; exact xF, ?_⟩
    unfold isF
    cases i with
    | zero => rw [← e, show ((0 : Nat) : Int) = 0 from rfl, h.head]; rfl
    | succ i => rw [← e, h.line i hi]; exact (hr _ (rd_mem (rowI l cu) i (by omega))).2.2.1
  · exact .inl (h.rest y y0 (fun i hi e => hin ⟨i, hi, e⟩))
theorem ins_del {r c : Int} {l : List S35} {cu a : Int} {T : List S35} (hR : RightI r c l cu) (h : InsI l cu a T) (ho : openI l cu = true) (hl : (rd_T35 l (rd (rowI l cu) (((rowI l cu).length - 1 : Nat) : Int))).f2 = 0) : wipeI T cu 12 = modI l cu := by
  have c0 := hR.cu0
  have c1 := hR.cu1
  have hp : 0 < l.length := by omega
  obtain ⟨hnd, hr, hn, hh⟩ := row_open c0 c1 ho
  have hS := ins_same h c0 c1 ho
  have hlT := h.len
  have hoT : openI T cu = true := by rw [hS.open hp cu c0]; exact ho
  obtain ⟨w1, w2⟩ := line_rd T cu 12 c0 (by omega) (by decide) hoT
  rw [hS.row hp cu c0] at w1 w2
  have hpl : ∀ i : Nat, i < (rowI l cu).length → rd_T35 l (rd (rowI l cu) (i : Int)) = newC (rd_T35 l (rd (rowI l cu) (i : Int))).f2 := fun i hi => by
    obtain ⟨x0, x1, xF, _⟩ := hr _ (rd_mem (rowI l cu) i hi)
    exact plain_cell hR.ok _ x0 x1 xF
  have hTp : ∀ i : Nat, i < (rowI l cu).length → ∃ v, rd_T35 T (rd (rowI l cu) (i : Int)) = newC v := fun i hi => by
    cases i with
    | zero => exact ⟨a, h.head⟩
    | succ i => exact ⟨_, (h.line i hi).trans (hpl i (by omega))⟩
  refine cells_ext (by rw [wipeI_length, modI_length, hlT]) (fun y y0 y1 => ?_)
  by_cases hin : ∃ i : Nat, i < (rowI l cu).length ∧ rd (rowI l cu) (i : Int) = y
  · obtain ⟨i, hi, e⟩ := hin
    obtain ⟨x0, x1, xF, _⟩ := hr _ (rd_mem (rowI l cu) i hi)
    obtain ⟨v, hv⟩ := hTp i hi
    rw [← e, w1 i hi, hv, modI_rd l cu hp _ x0 xF, hpl i hi]
    have hw : wipeV 12 T (rowI l cu) (i : Int) = (rd_T35 l (rd (rowI l cu) (i : Int))).f2 := by
      unfold wipeV
      by_cases h1 : i + 1 < (rowI l cu).length
      · rw [if_pos ⟨rfl, by omega⟩]
        have := h.line i h1
        rw [show ((i + 1 : Nat) : Int) = (i : Int) + 1 by omega] at this
        rw [this]
      · rw [if_neg (by omega)]
        obtain rfl : i = (rowI l cu).length - 1 := by omega
        exact hl.symm
    rw [hw]; rfl
  · have hny : ∀ i : Nat, i < (rowI l cu).length → rd (rowI l cu) (i : Int) ≠ y := fun i hi e => hin ⟨i, hi, e⟩
    rw [w2 y y0 hny]
    rcases modI_cases T cu (by omega) y y0 with ⟨e1, _, e3⟩ | ⟨_, e⟩
    · rw [e3, h.rest y y0 hny]
      rw [hS.begin hp] at e1
      rcases modI_cases l cu hp y y0 with ⟨_, _, e⟩ | ⟨e, _⟩
      · rw [e]; rfl
      · exact absurd e1 e
    · rw [e, h.rest y y0 hny]
theorem end_free (l : List S35) (cu : Int) (c0 : 0 ≤ cu) (c1 : cu < l.length) (ho : openI l cu = true) : ¬ freeI (wipeI l cu 13) cu < 0 := by
  have hp : 0 < l.length := by omega
  have hS := sameF_wipe l cu 13 c0 c1 (by decide) ho
  obtain ⟨_, hr, hn, _⟩ := row_open c0 c1 ho
  obtain ⟨w1, _⟩ := line_rd l cu 13 c0 c1 (by decide) ho
  unfold freeI
  rw [hS.row hp cu c0]
  rcases indexW_from (emptyC (wipeI l cu 13)) (rowI l cu) 0 (Int.le_refl _) with ⟨_, h⟩ | ⟨j, _, h, _, _⟩
  · have h0 := h _ (rd_mem (rowI l cu) 0 hn)
    unfold emptyC at h0
    rw [w1 0 hn, show wipeV 13 l (rowI l cu) ((0 : Nat) : Int) = 0 by unfold wipeV; rw [if_neg (fun h => absurd h.1 (by decide))]] at h0
    cases h0
  · omega
theorem un_tail (r c : Int) (l : List S35) (cu a : Int) (hR : RightI r c l cu) (hn : l.length ≤ 200) (a0 : 0 ≤ a) (a1 : a ≤ 255) (K : Nat) (hK : 600 < K)
    (hc : ∀ j : Nat, j < (rowI l cu).length → (((rd_T35 l (rd (rowI l cu) (j : Int))).f2 == 0) != (((j + 1 : Nat) : Int) == ((rowI l cu).length : Int))) = false) :
    shutterlaw16_WipeUndoes.l0 K a (rowI l cu) ((rowI l cu).length : Int) r c l cu false true = some true := by
  obtain ⟨K, rfl⟩ : ∃ m, K = m + 2 := ⟨K - 2, by omega⟩
  have c0 := hR.cu0
  have c1 := hR.cu1
  have hp : 0 < l.length := by omega
  rw [shutterlaw16_WipeUndoes.l0, if_neg (by omega), fType_eq (K + 1) r c l cu false true a (by omega) c0 c1 a0 a1 (by omega), Option.bind_some]
  by_cases hw : whyI l cu false true a = 0
  · obtain ⟨hL, _, ho, hnum, hfr⟩ := why_zero hw
    obtain ⟨hnd, hr, hlen, hh⟩ := row_open c0 c1 ho
    -- the first empty cell is the last one
    have hf : freeI l cu = (((rowI l cu).length - 1 : Nat) : Int) := by
      rcases free_range l cu with h | ⟨j, j1, j2, j3, j4⟩
      · exact absurd ⟨rfl, by omega⟩ hfr
      · have := hc j j1
        unfold emptyC at j3
        rw [j3] at this
        by_cases hj : ((j + 1 : Nat) : Int) = ((rowI l cu).length : Int)
        · rw [j2]; omega
        · rw [beq_eq_false_iff_ne.2 hj] at this; cases this
    have hlast : (rd_T35 l (rd (rowI l cu) (((rowI l cu).length - 1 : Nat) : Int))).f2 = 0 := by
      have := hc ((rowI l cu).length - 1) (by omega)
      rw [show (((rowI l cu).length - 1 + 1 : Nat) : Int) = ((rowI l cu).length : Int) by omega, beq_self_eq_true] at this
      by_cases h0 : (rd_T35 l (rd (rowI l cu) (((rowI l cu).length - 1 : Nat) : Int))).f2 = 0
      · exact h0
      · rw [beq_eq_false_iff_ne.2 h0] at this; cases this
    have hI := ins_of a c0 c1 ho hf
    have hS := ins_same hI c0 c1 ho
    have hlT := hI.len
    have hoT : openI (outI l cu true a) cu = true := by rw [hS.open hp cu c0]; exact ho
    have wz : ∀ kind : Int, kind = 12 ∨ kind = 13 → wipeW (outI l cu true a) cu false kind = 0 := fun kind hk => by
      unfold wipeW; rw [if_neg (by omega), if_neg (by decide), if_neg (by omega), if_pos hoT]
    rw [typeF_ok hw]
    refine pos_ rfl ?_
    show ((wipe_Do.f (K + 1) r c (outI l cu true a) cu false true 12).bind _) = _
    rw [fwipe_eq (K + 1) r c (outI l cu true a) cu false true 12 (by omega) c0 (by omega) (by omega), Option.bind_some, wipeF_ok (wz 12 (.inl rfl))]
    show ((wipe_Do.f (K + 1) r c (outI l cu true a) cu false true 13).bind _) = _
    rw [fwipe_eq (K + 1) r c (outI l cu true a) cu false true 13 (by omega) c0 (by omega) (by omega), Option.bind_some, wipeF_ok (wz 13 (.inr rfl))]
    refine pos_ rfl (pos_ rfl ?_)
    rw [if_neg (show ¬ ((12 : Int) = 14) by decide), if_neg (show ¬ ((13 : Int) = 14) by decide), ins_del hR hI ho hlast]
    have hS13 := sameF_wipe (outI l cu true a) cu 13 c0 (by omega) (by decide) hoT
    have hl13 := wipeI_length (outI l cu true a) cu 13
    have hST := hS.trans hS13
    have hw13 : whyI (wipeI (outI l cu true a) cu 13) cu false true a = 0 := by
      unfold whyI
      rw [hL, if_neg (by decide), if_neg (by decide), hST.open hp cu c0, ho, hST.of1 hp, if_neg (by decide), if_neg hnum, if_neg (fun h => end_free (outI l cu true a) cu c0 (by omega) hoT h.2)]
    rw [shutterlaw16_WipeUndoes.j1]
    refine neg_ (by decide) ?_
    show ((edit_Type.f K r c (wipeI (outI l cu true a) cu 13) cu false true a).bind _) = _
    rw [fType_eq K r c (wipeI (outI l cu true a) cu 13) cu false true a (by omega) c0 (by omega) a0 a1 (by omega), Option.bind_some, typeF_ok hw13, fModify_eq r c l cu false true cu (by omega) c0 c1, Option.bind_some]
    show ((shutterref10_Same.f K r c (modI l cu) cu false true r c (modI l cu) cu false true).bind _) = _
    rw [rSame_self K r c (modI l cu) cu false true (by rw [modI_length]; omega) (by rw [modI_length]; omega), Option.bind_some]
    exact pos_ rfl (pos_ rfl rfl)
  · exact neg_ (by rw [typeF_err hw]; decide) rfl
theorem un_loop (r c : Int) (l : List S35) (cu a : Int) (hR : RightI r c l cu) (ho : ∀ x ∈ rowI l cu, 0 ≤ x ∧ x < l.length) (hn : l.length ≤ 200) (a0 : 0 ≤ a) (a1 : a ≤ 255) : ∀ (d K i : Nat), i + d = (rowI l cu).length → d + 600 < K →
    (∀ j : Nat, j < i → (((rd_T35 l (rd (rowI l cu) (j : Int))).f2 == 0) != (((j + 1 : Nat) : Int) == ((rowI l cu).length : Int))) = false) →
    shutterlaw16_WipeUndoes.l0 K a (rowI l cu) (i : Int) r c l cu false true = some true
  | 0, K, i, hi, hk, hc => by
    obtain rfl : i = (rowI l cu).length := by omega
    exact un_tail r c l cu a hR hn a0 a1 K (by omega) hc
  | d + 1, K, i, hi, hk, hc => by
    obtain ⟨K, rfl⟩ : ∃ m, K = m + 1 := ⟨K - 1, by omega⟩
    have hl := row_len l cu
    have hm := ho _ (rd_mem (rowI l cu) i (by omega))
    have ex : wrap64 ((i : Int) + 1) = ((i + 1 : Nat) : Int) := by rw [w64 (by omega)]; omega
    rw [shutterlaw16_WipeUndoes.l0, if_pos (by omega), if_pos (by omega), if_pos hm.1, if_pos hm.2, ex]
    split
    · rfl
    · rename_i h
      refine un_loop r c l cu a hR ho hn a0 a1 d K (i + 1) (by omega) (by omega) (fun j hj => ?_)
      by_cases e : j = i
      · subst e; exact Bool.eq_false_iff.2 h
      · exact hc j (by omega)
theorem row_in (l : List S35) (cu : Int) (c0 : 0 ≤ cu) (c1 : cu < l.length) : ∀ x ∈ rowI l cu, 0 ≤ x ∧ x < l.length := fun x hx => by
  by_cases ho : openI l cu = true
  · obtain ⟨_, hr, _, _⟩ := row_open c0 c1 ho
    exact ⟨(hr x hx).1, (hr x hx).2.1⟩
  · unfold rowI at hx; rw [if_neg ho] at hx; cases hx
theorem WipeUndoes_pure (r c : Int) (l : List S35) (cu : Int) (lo ins : Bool) (a : Int) (wl : ∀ x ∈ l, wfC x) (a0 : 0 ≤ a) (a1 : a ≤ 255) : shutterlaw16_WipeUndoes.f 1000 r c l cu lo ins a = some true := by
  unfold shutterlaw16_WipeUndoes.f
  rw [awake16_eq 1000 (by omega), Option.bind_some, if_pos rfl]
  obtain ⟨t, ht, hi⟩ := rFew_eq 1000 r c l cu lo ins (by omega)
  rw [ht, Option.bind_some]
  cases t with
  | false => rw [if_neg (by decide), Option.bind_some]
  | true =>
    obtain ⟨hl, hr⟩ := hi.1 rfl
    have hrl := row_len l cu
    rw [if_pos rfl, fLine_eq 1000 r c l cu false true cu (by omega) hr.cu0 hr.cu1 (by omega), Option.bind_some]
    exact un_loop r c l cu a hr (row_in l cu hr.cu0 hr.cu1) hl a0 a1 (rowI l cu).length 1000 0 (by omega) (by omega) (fun j hj => by omega)
end Go.Proofs.YtggecanpjkpkiaaDoor.P
