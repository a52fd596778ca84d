/-
HostClean over plain lists: what its functions come to, and that they answer true. No Go in it.
-/
import Derived.Test.YtgboplhcjhlabaaDoorPx10
import Derived.Test.YtgboplhcjhlabaaDoorPx17
import Derived.Test.YtgboplhcjhlabaaDoorPx4
import Derived.Test.YtgboplhcjhlabaaDoorPx5
import Derived.Test.YtgboplhcjhlabaaDoorPx9
import Derived.Test.YtgboplhcjhlabaaDoorPx14
import Derived.Test.YtgboplhcjhlabaaDoorPx15
import Derived.Test.YtgboplhcjhlabaaDoorPx13
import Derived.Test.YtgboplhcjhlabaaDoorPx6
import Derived.Test.YtgboplhcjhlabaaDoorPx7
import Derived.Test.YtgboplhcjhlabaaDoorPx18
import Derived.Test.YtgboplhcjhlabaaDoorPx11
import Derived.Test.YtgboplhcjhlabaaDoorPx12
import Derived.Test.YtgboplhcjhlabaaDoorPx13L
import Derived.Test.YtgboplhcjhlabaaDoorO0
import Derived.Test.YtgboplhcjhlabaaDoorPx16
namespace Go.Proofs.YtgboplhcjhlabaaDoor.P
open Go.RowKit Go.Proofs.YtgboplhcjhlabaaDoorW.PrintWords Go.Proofs.YtgboplhcjhlabaaDoorW.PrintLast
set_option linter.unusedVariables false
set_option linter.unusedSimpArgs false

theorem w64 {x : Int} (h : -9223372036854775808 ≤ x ∧ x ≤ 9223372036854775807) : wrap64 x = x := by unfold wrap64; omega

theorem isF_rd (l : List S44) (i : Int) : (rd_T44 l i).f0 = isF l i := rfl
theorem fBegin_eq (r c : Int) (l : List S44) (cu : Int) (lo ins : Bool) (a : Int) (hn : l.length ≤ 16383) (h0 : 0 ≤ a) (h1 : a < l.length) : field_Begin.f r c l cu lo ins a = some (beginI l a) := by
  unfold field_Begin.f; rw [if_pos hn, if_pos h0, if_pos h1]

theorem findW_congr (p : Int → Bool) (g g' : Nat → Int) (h : ∀ j, g j = g' j) : ∀ c s, findW p g c s = findW p g' c s := by
  have : g = g' := funext h
  subst this; intros; rfl
theorem fNext_eq (r c : Int) (l : List S44) (cu : Int) (lo ins : Bool) (a : Int) (hn : l.length ≤ 16383) (h0 : 0 ≤ a) (h1 : a < l.length) : field_Next.f r c l cu lo ins a = some (nextI l a) := by
  unfold field_Next.f; rw [if_pos hn, if_pos h0, if_pos h1]
theorem rd_nat (l : List S44) (i : Nat) (h : i < l.length) : rd_T44 l (i : Int) = l[i] := rd_getElem l i h
/-- a cell's field's attribute -/
def ofI (l : List S44) (a : Int) : S28 := if beginI l a < 0 then ⟨false, false, 0, false⟩ else (rd_T44 l (beginI l a)).f1
/-- a cell is open -/
def openI (l : List S44) (a : Int) : Bool := !isF l a && !(ofI l a).f0
theorem fOf_eq (r c : Int) (l : List S44) (cu : Int) (lo ins : Bool) (a : Int) (hn : l.length ≤ 16383) (h0 : 0 ≤ a) (h1 : a < l.length) : field_Of.f r c l cu lo ins a = some ((ofI l a).f0, (ofI l a).f1, (ofI l a).f2, (ofI l a).f3) := by
  unfold field_Of.f ofI
  rw [fBegin_eq r c l cu lo ins a hn h0 h1, Option.bind_some]
  rcases begin_range l a (by omega) with hb | ⟨hb0, hb1, _⟩
  · rw [hb, if_pos (by decide), if_pos (by decide)]
  · have hlt : ¬ beginI l a < 0 := by omega
    rw [if_neg hlt, if_pos hb0, if_pos hb1, if_neg hlt]
theorem fOpen_eq (r c : Int) (l : List S44) (cu : Int) (lo ins : Bool) (a : Int) (hn : l.length ≤ 16383) (h0 : 0 ≤ a) (h1 : a < l.length) : field_Open.f r c l cu lo ins a = some (openI l a) := by
  unfold field_Open.f openI
  rw [if_pos h0, if_pos h1, fOf_eq r c l cu lo ins a hn h0 h1, isF_rd]
  cases isF l a <;> simp
/-- a cell is right -/
def okC (x : S44) : Bool := if x.f0 = true then (x.f2 == 0 && (decide (0 ≤ x.f1.f2) && decide (x.f1.f2 ≤ 3))) else ((!x.f1.f0 && (!x.f1.f1 && (x.f1.f2 == 0 && (!x.f1.f3)))) && (x.f2 == 0 || (x.f2 == 28 || (x.f2 == 30 || (decide (64 ≤ x.f2) && decide (x.f2 ≤ 254))))))
theorem rCell_eq (x : S44) : shutterref10_Cell.f x.f0 x.f1.f0 x.f1.f1 x.f1.f2 x.f1.f3 x.f2 = some (okC x) := by
  unfold shutterref10_Cell.f okC
  by_cases h : x.f0 = true
  · rw [if_pos h, if_pos h]
    by_cases h2 : x.f2 = 0
    · rw [if_pos h2]
      by_cases h3 : x.f1.f2 ≥ 0
      · rw [if_pos h3]; simp [h2]; intro _; omega
      · rw [if_neg h3]; simp [h2]; intro _; omega
    · rw [if_neg h2]; simp [h2]
  · rw [if_neg h, if_neg h]
    cases hA : (!x.f1.f0 && (!x.f1.f1 && (x.f1.f2 == 0 && (!x.f1.f3))))
    · simp
    · simp only [if_true, Bool.true_and]
      unfold shutterref05_Char.f
      by_cases e0 : x.f2 = 0
      · simp [e0]
      · by_cases e1 : x.f2 = 28
        · simp [e1]
        · by_cases e2 : x.f2 = 30
          · simp [e2]
          · by_cases e3 : x.f2 ≥ 64
            · rw [if_neg e0, if_neg e1, if_neg e2, if_pos e3, beq_eq_false_iff_ne.2 e0, beq_eq_false_iff_ne.2 e1, beq_eq_false_iff_ne.2 e2, decide_eq_true (show 64 ≤ x.f2 from e3)]; rfl
            · rw [if_neg e0, if_neg e1, if_neg e2, if_neg e3, beq_eq_false_iff_ne.2 e0, beq_eq_false_iff_ne.2 e1, beq_eq_false_iff_ne.2 e2, decide_eq_false (show ¬ 64 ≤ x.f2 from e3)]; rfl

/-- a screen is right -/
structure RightI (r c : Int) (l : List S44) (cu : Int) : Prop where
  r1 : 1 ≤ r
  c1 : 1 ≤ c
  r2 : r ≤ 16383
  c2 : c ≤ 16383
  rc : r * c ≤ 16383
  len : (l.length : Int) = r * c
  cu0 : 0 ≤ cu
  cu1 : cu < l.length
  ok : ∀ x ∈ l, okC x = true

theorem rRight_loop (r c : Int) (l : List S44) (cu : Int) (lo ins : Bool) (hn : l.length ≤ 16383) : ∀ (d k i : Nat), d + i = l.length → d < k → shutterref10_Right.l0 k i r c l cu lo ins = some ((l.drop i).all okC)
  | 0, k, i, hd, hk => by
    obtain ⟨k, rfl⟩ : ∃ m, k = m + 1 := ⟨k - 1, by omega⟩
    rw [shutterref10_Right.l0, if_neg (by omega), List.drop_eq_nil_of_le (by omega)]; rfl
  | d + 1, k, i, hd, hk => by
    obtain ⟨k, rfl⟩ : ∃ m, k = m + 1 := ⟨k - 1, by omega⟩
    rw [shutterref10_Right.l0, if_pos (by omega), if_pos (by omega), rd_nat l i (by omega), rCell_eq, Option.bind_some, List.drop_eq_getElem_cons (by omega : i < l.length), List.all_cons]
    cases h : okC l[i]
    · simp
    · simp only [if_true, Bool.true_and]
      rw [w64 (by omega)]
      exact rRight_loop r c l cu lo ins hn d k (i + 1) (by omega) (by omega)
theorem prod_bd {r c : Int} (h1 : 1 ≤ r) (h2 : r ≤ 16383) (h3 : 1 ≤ c) (h4 : c ≤ 16383) : 1 ≤ r * c ∧ r * c ≤ 268402689 := by
  constructor
  · have := Int.mul_le_mul h1 h3 (by omega) (by omega); omega
  · have := Int.mul_le_mul h2 h4 (by omega) (by omega); omega
theorem rRight_eq (k : Nat) (r c : Int) (l : List S44) (cu : Int) (lo ins : Bool) (hk : l.length + 1 < k) (hn : l.length ≤ 16383) : ∃ b, shutterref10_Right.f k r c l cu lo ins = some b ∧ (b = true ↔ RightI r c l cu) := by
  obtain ⟨k, rfl⟩ : ∃ m, k = m + 1 := ⟨k - 1, by omega⟩
  unfold shutterref10_Right.f shutterref10_Sized.f
  have no : (¬ RightI r c l cu) → ∃ b, some false = some b ∧ (b = true ↔ RightI r c l cu) := fun h => ⟨false, rfl, by simp [h]⟩
  have jt : shutterref10_Right.j0 (k + 1) true r c l cu lo ins = some false := by rw [shutterref10_Right.j0, if_pos rfl]
  by_cases h1 : r ≥ 1
  · rw [if_pos h1]
    by_cases h2 : c ≥ 1
    · rw [if_pos h2]
      by_cases h3 : r ≤ 16383
      · rw [if_pos h3]
        by_cases h4 : c ≤ 16383
        · have hb := prod_bd h1 h3 h2 h4
          rw [if_pos h4, Option.bind_some, w64 (by omega)]
          by_cases h5 : r * c ≤ 16383
          · rw [if_pos (decide_eq_true h5)]
            by_cases h6 : (l.length : Int) = r * c
            · rw [if_pos h6]
              by_cases h7 : cu < 0
              · rw [if_pos h7, jt]; exact no (fun h => by have := h.cu0; omega)
              · rw [if_neg h7, shutterref10_Right.j0]
                by_cases h8 : cu ≥ l.length
                · rw [if_pos (decide_eq_true h8)]; exact no (fun h => by have := h.cu1; omega)
                · rw [if_neg (by simp; omega)]
                  have := rRight_loop r c l cu lo ins hn l.length k 0 rfl (by omega)
                  rw [show ((0 : Nat) : Int) = 0 from rfl] at this
                  rw [this, List.drop_zero]
                  refine ⟨_, rfl, ?_⟩
                  rw [List.all_eq_true]
                  exact ⟨fun h => ⟨h1, h2, h3, h4, h5, h6, by omega, by omega, h⟩, fun h => h.ok⟩
            · rw [if_neg h6, jt]; exact no (fun h => h6 h.len)
          · rw [if_neg (by simp; omega), jt]; exact no (fun h => h5 h.rc)
        · rw [if_neg h4, Option.bind_some, if_neg (by decide), jt]; exact no (fun h => h4 h.c2)
      · rw [if_neg h3, Option.bind_some, if_neg (by decide), jt]; exact no (fun h => h3 h.r2)
    · rw [if_neg h2, Option.bind_some, if_neg (by decide), jt]; exact no (fun h => h2 h.c1)
  · rw [if_neg h1, Option.bind_some, if_neg (by decide), jt]; exact no (fun h => h1 h.r1)
theorem rFew_eq (k : Nat) (r c : Int) (l : List S44) (cu : Int) (lo ins : Bool) (hk : 202 < k) : ∃ b, shutterref10_Few.f k r c l cu lo ins = some b ∧ (b = true ↔ l.length ≤ 200 ∧ RightI r c l cu) := by
  unfold shutterref10_Few.f
  by_cases h : (l.length : Int) ≤ 200
  · obtain ⟨b, hb, hi⟩ := rRight_eq k r c l cu lo ins (by omega) (by omega)
    rw [if_pos h, hb, Option.bind_some]
    exact ⟨b, rfl, hi.trans ⟨fun x => ⟨by omega, x⟩, fun x => x.2⟩⟩
  · rw [if_neg h]; exact ⟨false, rfl, by simp; intro h'; omega⟩
end Go.Proofs.YtgboplhcjhlabaaDoor.P
namespace Go.Proofs.YtgboplhcjhlabaaDoor.P
open Go.RowKit Go.Proofs.YtgboplhcjhlabaaDoorW.PrintWords Go.Proofs.YtgboplhcjhlabaaDoorW.PrintLast
set_option linter.unusedVariables false
set_option linter.unusedSimpArgs false

theorem mod_eq (k : Nat) (x : Int) (n : Nat) (hk : 1 < k) (h0 : 0 < n) (hn : n ≤ 16383) (hx : -(n : Int) ≤ x) (hx1 : x ≤ 100000) : shutterref11_mod.f k x n = some (x % (n : Int)) := by
  unfold shutterref11_mod.f
  obtain ⟨k, rfl⟩ : ∃ m, k = m + 2 := ⟨k - 2, by omega⟩
  have hz : ¬ (n : Int) = 0 := by omega
  by_cases hx0 : x < 0
  · rw [shutterref11_mod.l0, if_pos hx0, w64 (by omega), shutterref11_mod.l0, if_neg (by omega), if_neg hz, Int.tmod_eq_emod_of_nonneg (by omega), Int.add_emod_right]
  · rw [shutterref11_mod.l0, if_neg hx0, if_neg hz, Int.tmod_eq_emod_of_nonneg (by omega)]

theorem rBegin_loop (r c : Int) (l : List S44) (cu : Int) (lo ins : Bool) (a : Int) (hn : l.length ≤ 16383) (h0 : 0 ≤ a) (h1 : a < l.length) : ∀ (d k i : Nat), d + i = l.length → d + 2 < k → shutterref11_Begin.l0 k a i r c l cu lo ins = some (findW (isF l) (fun j => (a - j) % (l.length : Int)) d i)
  | 0, k, i, hd, hk => by
    obtain ⟨k, rfl⟩ : ∃ m, k = m + 1 := ⟨k - 1, by omega⟩
    rw [shutterref11_Begin.l0, if_neg (by omega)]; rfl
  | d + 1, k, i, hd, hk => by
    obtain ⟨k, rfl⟩ : ∃ m, k = m + 1 := ⟨k - 1, by omega⟩
    rw [shutterref11_Begin.l0, if_pos (by omega), w64 (by omega), mod_eq k _ _ (by omega) (by omega) hn (by omega) (by omega), Option.bind_some, if_pos (Int.emod_nonneg _ (by omega)), if_pos (Int.emod_lt_of_pos _ (by omega)), findW, isF_rd]
    show _ = some (if isF l ((a - (i : Int)) % (l.length : Int)) = true then (a - (i : Int)) % (l.length : Int) else _)
    by_cases hf : isF l ((a - i) % (l.length : Int)) = true
    · rw [if_pos hf, if_pos hf]
    · rw [if_neg hf, if_neg hf, w64 (by omega)]
      exact rBegin_loop r c l cu lo ins a hn h0 h1 d k (i + 1) (by omega) (by omega)
theorem rBegin_eq (k : Nat) (r c : Int) (l : List S44) (cu : Int) (lo ins : Bool) (a : Int) (hn : l.length ≤ 16383) (h0 : 0 ≤ a) (h1 : a < l.length) (hk : l.length + 2 < k) : shutterref11_Begin.f k r c l cu lo ins a = some (beginI l a) :=
  rBegin_loop r c l cu lo ins a hn h0 h1 l.length k 0 rfl hk
theorem rOf_eq (k : Nat) (r c : Int) (l : List S44) (cu : Int) (lo ins : Bool) (a : Int) (hn : l.length ≤ 16383) (h0 : 0 ≤ a) (h1 : a < l.length) (hk : l.length + 2 < k) : shutterref11_Of.f k r c l cu lo ins a = some ((ofI l a).f0, (ofI l a).f1, (ofI l a).f2, (ofI l a).f3) := by
  unfold shutterref11_Of.f ofI
  rw [rBegin_eq k r c l cu lo ins a hn h0 h1 hk, Option.bind_some]
  rcases begin_range l a (by omega) with hb | ⟨hb0, hb1, _⟩
  · rw [hb, if_pos (by decide), if_pos (by decide)]
  · have hlt : ¬ beginI l a < 0 := by omega
    rw [if_neg hlt, if_pos hb0, if_pos hb1, if_neg hlt]
theorem rOpen_eq (k : Nat) (r c : Int) (l : List S44) (cu : Int) (lo ins : Bool) (a : Int) (hn : l.length ≤ 16383) (h0 : 0 ≤ a) (h1 : a < l.length) (hk : l.length + 2 < k) : shutterref11_Open.f k r c l cu lo ins a = some (openI l a) := by
  unfold shutterref11_Open.f openI
  rw [if_pos h0, if_pos h1, rOf_eq k r c l cu lo ins a hn h0 h1 hk, isF_rd]
  cases isF l a <;> simp

theorem rfirst_eq (k : Nat) (r c : Int) (l : List S44) (cu : Int) (lo ins : Bool) (i : Int) (hn : l.length ≤ 16383) (h0 : 0 ≤ i) (h1 : i < l.length) (hk : 1 < k) : shutterref11_first.f k r c l cu lo ins i = some (if entI l i = true then onI l.length i 1 else -1) := by
  have hp : 0 < l.length := by omega
  unfold shutterref11_first.f
  rw [w64 (by omega), mod_eq k _ _ hk hp hn (by omega) (by omega), Option.bind_some, if_pos h0, if_pos h1, isF_rd, if_pos (Int.emod_nonneg _ (by omega)), if_pos (Int.emod_lt_of_pos _ (by omega)), isF_rd]
  unfold entI protI
  show _ = some (if (isF l i && !(rd_T44 l i).f1.f0 && !isF l ((i + 1) % (l.length : Int))) = true then (i + 1) % (l.length : Int) else -1)
  cases isF l i <;> cases (rd_T44 l i).f1.f0 <;> cases isF l ((i + 1) % (l.length : Int)) <;> rfl

theorem rNext_loop (r c : Int) (l : List S44) (cu : Int) (lo ins : Bool) (a : Int) (hn : l.length ≤ 16383) (h0 : 0 ≤ a) (h1 : a < l.length) : ∀ (d k i : Nat), d + i = l.length → d + 2 < k → shutterref11_Next.l0 k a ((i : Int) + 1) r c l cu lo ins = some (if findW (entI l) (fun j => (a + (j + 1)) % (l.length : Int)) d i < 0 then -1 else onI l.length (findW (entI l) (fun j => (a + (j + 1)) % (l.length : Int)) d i) 1)
  | 0, k, i, hd, hk => by
    obtain ⟨k, rfl⟩ : ∃ m, k = m + 1 := ⟨k - 1, by omega⟩
    rw [shutterref11_Next.l0, if_neg (by omega)]; rfl
  | d + 1, k, i, hd, hk => by
    obtain ⟨k, rfl⟩ : ∃ m, k = m + 1 := ⟨k - 1, by omega⟩
    have hp : 0 < l.length := by omega
    have m0 := Int.emod_nonneg (a + ((i : Int) + 1)) (b := (l.length : Int)) (by omega)
    have m1 := Int.emod_lt_of_pos (a + ((i : Int) + 1)) (b := (l.length : Int)) (by omega)
    rw [shutterref11_Next.l0, if_pos (by omega), w64 (by omega), mod_eq k _ _ (by omega) hp hn (by omega) (by omega), Option.bind_some, rfirst_eq k r c l cu lo ins _ hn m0 m1 (by omega), Option.bind_some]
    have hF : findW (entI l) (fun j => (a + (j + 1)) % (l.length : Int)) (d + 1) i = if entI l ((a + ((i : Int) + 1)) % (l.length : Int)) = true then (a + ((i : Int) + 1)) % (l.length : Int) else findW (entI l) (fun j => (a + (j + 1)) % (l.length : Int)) d (i + 1) := rfl
    rw [hF]
    by_cases hf : entI l ((a + ((i : Int) + 1)) % (l.length : Int)) = true
    · rw [if_pos hf, if_pos hf, if_pos (onI_nonneg hp _ _), if_neg (by omega)]
    · rw [if_neg hf, if_neg hf, if_neg (by decide), w64 (by omega)]
      have := rNext_loop r c l cu lo ins a hn h0 h1 d k (i + 1) (by omega) (by omega)
      rw [Int.natCast_add] at this
      exact this
theorem rNext_eq (k : Nat) (r c : Int) (l : List S44) (cu : Int) (lo ins : Bool) (a : Int) (hn : l.length ≤ 16383) (h0 : 0 ≤ a) (h1 : a < l.length) (hk : l.length + 2 < k) : shutterref11_Next.f k r c l cu lo ins a = some (nextI l a) := by
  have := rNext_loop r c l cu lo ins a hn h0 h1 l.length k 0 rfl hk
  rw [show ((0 : Nat) : Int) + 1 = 1 from rfl] at this
  unfold shutterref11_Next.f
  rw [this, nextI, firstI]
  rw [findW_congr (entI l) (fun j => (a + (j + 1)) % (l.length : Int)) (wayI l.length a 1) (fun j => by unfold wayI sgnI; simp; congr 1; omega)]
end Go.Proofs.YtgboplhcjhlabaaDoor.P
namespace Go.Proofs.YtgboplhcjhlabaaDoor.P
open Go.RowKit Go.Proofs.YtgboplhcjhlabaaDoorW.PrintWords Go.Proofs.YtgboplhcjhlabaaDoorW.PrintLast
set_option linter.unusedVariables false
set_option linter.unusedSimpArgs false

end Go.Proofs.YtgboplhcjhlabaaDoor.P
namespace Go.Proofs.YtgboplhcjhlabaaDoor.P
open Go.RowKit Go.Proofs.YtgboplhcjhlabaaDoorW.PrintWords Go.Proofs.YtgboplhcjhlabaaDoorW.PrintLast
set_option linter.unusedVariables false
set_option linter.unusedSimpArgs false

/-- firstI, told: none on the way, or the first of them. -/
theorem firstI_cases (l : List S44) (g : Nat → Int) (hg : ∀ j, 0 ≤ g j) (hp : 0 < l.length) : (firstI l g = -1 ∧ ∀ j, j < l.length → entI l (g j) = false) ∨ ∃ j, j < l.length ∧ entI l (g j) = true ∧ (∀ i, i < j → entI l (g i) = false) ∧ firstI l g = onI l.length (g j) 1 := by
  unfold firstI
  rcases findW_cases (entI l) g l.length 0 with ⟨h1, h2⟩ | ⟨j, _, h2, h3, h4, h5⟩
  · rw [h1]; exact .inl ⟨rfl, fun j hj => h2 j (by omega) (by omega)⟩
  · rw [h5, if_neg (by have := hg j; omega)]
    exact .inr ⟨j, by omega, h3, fun i hi => h4 i (by omega) hi, rfl⟩
theorem way_nn (n : Nat) (hp : 0 < n) (a d : Int) (j : Nat) : 0 ≤ wayI n a d j := wayI_nonneg hp a d j
/-- Each cell is met on a way of as many steps as there are cells: forth .. -/
theorem way_meets (n : Nat) (hp : 0 < n) (a : Int) (x : Int) (x0 : 0 ≤ x) (x1 : x < n) : ∃ j, j < n ∧ wayI n a 1 j = x := by
  refine ⟨((x - a - 1) % (n : Int)).toNat, ?_, ?_⟩
  · have := Int.emod_lt_of_pos (x - a - 1) (b := (n : Int)) (by omega)
    have := Int.emod_nonneg (x - a - 1) (b := (n : Int)) (by omega)
    omega
  · have h0 := Int.emod_nonneg (x - a - 1) (b := (n : Int)) (by omega)
    unfold wayI sgnI
    simp only [show ¬ (1 : Int) < 0 by decide, if_false, Int.one_mul, Int.toNat_of_nonneg h0]
    rw [Int.add_emod, Int.emod_emod_of_dvd _ (Int.dvd_refl _), ← Int.add_emod, show a + 1 + (x - a - 1) = x by omega]
    exact Int.emod_eq_of_lt x0 x1
theorem no_ent_next (l : List S44) (a : Int) (hp : 0 < l.length) : nextI l a = -1 ↔ ∀ x : Int, 0 ≤ x → x < l.length → entI l x = false := by
  unfold nextI
  constructor
  · intro h x x0 x1
    obtain ⟨j, hj, rfl⟩ := way_meets l.length hp a x x0 x1
    rcases firstI_cases l (wayI l.length a 1) (way_nn _ hp a 1) hp with ⟨_, h2⟩ | ⟨i, _, _, _, h5⟩
    · exact h2 j hj
    · rw [h5] at h; have := onI_nonneg hp (wayI l.length a 1 i) 1; omega
  · intro h
    rcases firstI_cases l (wayI l.length a 1) (way_nn _ hp a 1) hp with ⟨h1, _⟩ | ⟨i, _, h3, _, _⟩
    · exact h1
    · rw [h _ (wayI_nonneg hp _ _ _) (wayI_lt hp _ _ _)] at h3; cases h3
/-- What Next tells, if it tells one: the cell behind one where an open field begins. -/
theorem next_ent (l : List S44) (a : Int) (hp : 0 < l.length) (h : nextI l a ≠ -1) : ∃ e : Int, 0 ≤ e ∧ e < l.length ∧ entI l e = true ∧ nextI l a = onI l.length e 1 := by
  unfold nextI at h ⊢
  rcases firstI_cases l (wayI l.length a 1) (way_nn _ hp a 1) hp with ⟨h1, _⟩ | ⟨i, _, h3, _, h5⟩
  · exact absurd h1 h
  · exact ⟨_, wayI_nonneg hp _ _ _, wayI_lt hp _ _ _, h3, h5⟩
theorem ent_parts {l : List S44} {e : Int} (h : entI l e = true) : isF l e = true ∧ protI l e = false ∧ isF l (onI l.length e 1) = false := by
  unfold entI at h
  rw [Bool.and_eq_true, Bool.and_eq_true] at h
  exact ⟨h.1.1, by simpa using h.1.2, by simpa using h.2⟩
/-- the field of the cell behind one with a field -/
theorem begin_behind (l : List S44) (e : Int) (e0 : 0 ≤ e) (e1 : e < l.length) (hF : isF l e = true) (hN : isF l (onI l.length e 1) = false) : beginI l (onI l.length e 1) = e := by
  have hp : 0 < l.length := by omega
  have hn := onI_nonneg hp e 1
  have hlt := onI_lt hp e 1
  have hw : wayI l.length (onI l.length e 1) (-1) 0 = e := by
    rw [wayI_zero]; unfold onI
    rw [Int.emod_add_emod, show e + 1 + -1 = e by omega]; exact Int.emod_eq_of_lt e0 e1
  have := begin_way l (onI l.length e 1) hn hlt hN 0 hp (by rw [hw]; exact hF) (fun i hi => by omega)
  rw [this, hw]
/-- the first cell of an open field: it is open, and its field's cells begin with it -/
theorem first_isopen (l : List S44) (e : Int) (e0 : 0 ≤ e) (e1 : e < l.length) (h : entI l e = true) : openI l (onI l.length e 1) = true := by
  obtain ⟨hF, hP, hN⟩ := ent_parts h
  have hb := begin_behind l e e0 e1 hF hN
  unfold openI ofI
  rw [hb, if_neg (by omega), hN]
  show (!false && !(rd_T44 l e).f1.f0) = true
  have : (rd_T44 l e).f1.f0 = false := hP
  rw [this]; rfl
end Go.Proofs.YtgboplhcjhlabaaDoor.P
namespace Go.Proofs.YtgboplhcjhlabaaDoor.P
open Go.RowKit Go.Proofs.YtgboplhcjhlabaaDoorW.PrintWords Go.Proofs.YtgboplhcjhlabaaDoorW.PrintLast
set_option linter.unusedVariables false
set_option linter.unusedSimpArgs false
theorem emod_over (x : Int) (n : Nat) (h0 : (n : Int) ≤ x) (h1 : x < 2 * n) : x % (n : Int) = x - n := by
  have h : (x - n) % (n : Int) = x % (n : Int) := by rw [Int.sub_emod, Int.emod_self, Int.sub_zero, Int.emod_emod_of_dvd _ (Int.dvd_refl _)]
  rw [← h]; exact Int.emod_eq_of_lt (by omega) (by omega)
theorem emod_under (x : Int) (n : Nat) (h0 : -(n : Int) ≤ x) (h1 : x < 0) : x % (n : Int) = x + n := by
  have h : (x + n - n) % (n : Int) = (x + n) % (n : Int) := by rw [Int.sub_emod, Int.emod_self, Int.sub_zero, Int.emod_emod_of_dvd _ (Int.dvd_refl _)]
  rw [show x + n - n = x by omega] at h
  rw [h]; exact Int.emod_eq_of_lt (by omega) (by omega)
theorem way_val (n : Nat) (b : Int) (i : Nat) (b0 : 0 ≤ b) (b1 : b < n) (hi : i < n) : wayI n b 1 i = if b + 1 + i < n then b + 1 + i else b + 1 + i - n := by
  have e : wayI n b 1 i = (b + 1 + i) % (n : Int) := by unfold wayI sgnI; rw [if_neg (by omega), Int.one_mul]
  rw [e]
  by_cases h : b + 1 + i < n
  · rw [if_pos h]; exact Int.emod_eq_of_lt (by omega) h
  · rw [if_neg h]; exact emod_over _ _ (by omega) (by omega)
theorem back_val (n : Nat) (x : Int) (j : Nat) (x0 : 0 ≤ x) (x1 : x < n) (hj : j < n) : (x - j) % (n : Int) = if (j : Int) ≤ x then x - j else x - j + n := by
  by_cases h : (j : Int) ≤ x
  · rw [if_pos h]; exact Int.emod_eq_of_lt (by omega) (by omega)
  · rw [if_neg h]; exact emod_under _ _ (by omega) (by omega)

theorem takeW_way (p : Int → Bool) (g : Nat → Int) : ∀ c s, ∃ k, k ≤ c ∧ takeW p g c s = uptoI (fun j => g (s + j)) k ∧ (∀ i, i < k → p (g (s + i)) = false) ∧ (k = c ∨ p (g (s + k)) = true)
  | 0, s => ⟨0, Nat.le_refl _, rfl, fun i h => by omega, .inl rfl⟩
  | c + 1, s => by
    by_cases h : p (g s) = true
    · exact ⟨0, by omega, by rw [takeW, if_pos h]; rfl, fun i hi => by omega, .inr h⟩
    · obtain ⟨k, h1, h2, h3, h4⟩ := takeW_way p g c (s + 1)
      refine ⟨k + 1, by omega, ?_, fun i hi => ?_, ?_⟩
      · rw [takeW, if_neg h, h2, uptoI_front]; simp only [Nat.add_zero]; congr 1; congr 1; funext j; rw [show s + 1 + j = s + (j + 1) by omega]
      · rcases i with _ | i
        · simpa using h
        · have := h3 i (by omega); rw [show s + (i + 1) = s + 1 + i by omega]; exact this
      · rcases h4 with h4 | h4
        · left; omega
        · right; rw [show s + (k + 1) = s + 1 + k by omega]; exact h4

/-- the cells behind a cell with a field, up to the next one -/
theorem cells_parts (l : List S44) (b : Int) (b0 : 0 ≤ b) (b1 : b < l.length) (hF : isF l b = true) :
    ∃ k, k < l.length ∧ cellsI l b = uptoI (wayI l.length b 1) k ∧ (∀ i, i < k → isF l (wayI l.length b 1 i) = false) ∧ isF l (wayI l.length b 1 k) = true := by
  obtain ⟨k, h1, h2, h3, h4⟩ := takeW_way (isF l) (wayI l.length b 1) l.length 0
  simp only [Nat.zero_add] at h2 h3 h4
  have hlast : wayI l.length b 1 (l.length - 1) = b := by
    rw [way_val _ _ _ b0 b1 (by omega)]; split <;> omega
  have hk : k ≠ l.length := fun e => by
    have := h3 (l.length - 1) (by omega)
    rw [hlast, hF] at this; cases this
  refine ⟨k, by omega, ?_, h3, ?_⟩
  · unfold cellsI
    rw [begin_here l b b0 b1 hF, if_neg (by omega)]; exact h2
  · rcases h4 with h4 | h4
    · exact absurd h4 hk
    · exact h4
theorem begin_at (l : List S44) (x : Int) (j : Nat) (hj : j < l.length) (h : isF l ((x - j) % (l.length : Int)) = true) (h' : ∀ i : Nat, i < j → isF l ((x - i) % (l.length : Int)) = false) : beginI l x = (x - j) % (l.length : Int) :=
  findW_eq (isF l) (fun j => (x - j) % (l.length : Int)) l.length 0 j (by omega) (by omega) h (fun i _ hi => h' i hi)
theorem parts_in (l : List S44) (b : Int) (b0 : 0 ≤ b) (b1 : b < l.length) (hF : isF l b = true) (k : Nat) (hk : k < l.length) (hn : ∀ i, i < k → isF l (wayI l.length b 1 i) = false) (i : Nat) (hi : i < k) : beginI l (wayI l.length b 1 i) = b := by
  have v := way_val l.length b i b0 b1 (by omega)
  have w0 : 0 ≤ wayI l.length b 1 i ∧ wayI l.length b 1 i < l.length := by rw [v]; split <;> omega
  have e : (wayI l.length b 1 i - ((i + 1 : Nat) : Int)) % (l.length : Int) = b := by
    rw [back_val _ _ _ w0.1 w0.2 (by omega), v]; split <;> split <;> omega
  have := begin_at l (wayI l.length b 1 i) (i + 1) (by omega) (by rw [e]; exact hF) (fun j hj => by
    have e' : (wayI l.length b 1 i - (j : Int)) % (l.length : Int) = wayI l.length b 1 (i - j) := by
      rw [back_val _ _ _ w0.1 w0.2 (by omega), v, way_val _ _ _ b0 b1 (by omega)]; split <;> split <;> split <;> omega
    rw [e']; exact hn _ (by omega))
  rw [this, e]
theorem parts_all (l : List S44) (b : Int) (b0 : 0 ≤ b) (b1 : b < l.length) (k : Nat) (hk : k < l.length) (hK : isF l (wayI l.length b 1 k) = true) (x : Int) (x0 : 0 ≤ x) (x1 : x < l.length) (hx : beginI l x = b) (ne : x ≠ b) : ∃ i, i < k ∧ wayI l.length b 1 i = x := by
  rcases findW_cases (isF l) (fun j => (x - j) % (l.length : Int)) l.length 0 with ⟨h, _⟩ | ⟨j, _, hj, hp, hall, h⟩
  · have : beginI l x = -1 := h
    omega
  · have e : (x - (j : Int)) % (l.length : Int) = b := (show beginI l x = _ from h).symm.trans hx
    have v := back_val l.length x j x0 x1 (by omega)
    rw [e] at v
    have hj0 : j ≠ 0 := fun z => by
      subst z; rw [if_pos (by omega)] at v; omega
    have e2 : wayI l.length b 1 (j - 1) = x := by
      rw [way_val _ _ _ b0 b1 (by omega)]; revert v; split <;> split <;> omega
    refine ⟨j - 1, ?_, e2⟩
    rcases Nat.lt_or_ge (j - 1) k with hh | hh
    · exact hh
    · exfalso
      have e3 : (x - ((j - 1 - k : Nat) : Int)) % (l.length : Int) = wayI l.length b 1 k := by
        rw [back_val _ _ _ x0 x1 (by omega), way_val _ _ _ b0 b1 hk]; revert v; split <;> split <;> split <;> omega
      have h5 : isF l ((x - ((j - 1 - k : Nat) : Int)) % (l.length : Int)) = false := hall (j - 1 - k) (by omega) (by omega)
      rw [e3, hK] at h5; cases h5

theorem begin_never (l : List S44) (x : Int) (x0 : 0 ≤ x) (x1 : x < l.length) (h : beginI l x = -1) (y : Int) (y0 : 0 ≤ y) (y1 : y < l.length) : isF l y = false := by
  rcases findW_cases (isF l) (fun j => (x - j) % (l.length : Int)) l.length 0 with ⟨_, ha⟩ | ⟨j, _, hj, _, _, e⟩
  · by_cases hh : y ≤ x
    · have h5 : isF l ((x - ((x - y).toNat : Int)) % (l.length : Int)) = false := ha (x - y).toNat (by omega) (by omega)
      rw [back_val _ _ _ x0 x1 (by omega), if_pos (by omega), show x - ((x - y).toNat : Int) = y by omega] at h5
      exact h5
    · have h5 : isF l ((x - ((x - y + l.length).toNat : Int)) % (l.length : Int)) = false := ha (x - y + l.length).toNat (by omega) (by omega)
      rw [back_val _ _ _ x0 x1 (by omega), if_neg (by omega), show x - ((x - y + l.length).toNat : Int) + l.length = y by omega] at h5
      exact h5
  · have e2 : beginI l x = (x - (j : Int)) % (l.length : Int) := e
    have := Int.emod_nonneg (x - (j : Int)) (b := (l.length : Int)) (by omega)
    omega
theorem begin_only (l : List S44) (h : ∀ y : Int, 0 ≤ y → y < l.length → isF l y = false) (hp : 0 < l.length) (x : Int) : beginI l x = -1 :=
  findW_none (isF l) (fun j => (x - j) % (l.length : Int)) l.length 0 (fun i _ _ => h _ (Int.emod_nonneg _ (by omega)) (Int.emod_lt_of_pos _ (by omega)))
theorem cells_of_begin (l : List S44) (a b : Int) (hb : beginI l a = b) (b0 : 0 ≤ b) (b1 : b < l.length) (hF : isF l b = true) : cellsI l a = cellsI l b := by
  unfold cellsI; rw [hb, begin_here l b b0 b1 hF]
/-- the cells of an open cell's field: a list without a cell twice, all in the field, the cell itself among them -/
theorem cells_all (l : List S44) (a : Int) (a0 : 0 ≤ a) (a1 : a < l.length) (ha : isF l a = false) :
    a ∈ cellsI l a ∧ (cellsI l a).Nodup ∧ ∀ x ∈ cellsI l a, 0 ≤ x ∧ x < l.length ∧ isF l x = false ∧ beginI l x = beginI l a := by
  have hp : 0 < l.length := by omega
  rcases begin_range l a hp with hb | ⟨b0, b1, hF⟩
  · have hn := begin_never l a a0 a1 hb
    have hc : cellsI l a = uptoI (fun j => (j : Int)) l.length := by unfold cellsI; rw [hb, if_pos (by decide)]
    rw [hc, hb]
    unfold uptoI
    refine ⟨List.mem_map.2 ⟨a.toNat, List.mem_range.2 (by omega), by omega⟩, ?_, fun x hx => ?_⟩
    · exact List.Pairwise.map _ (fun x y (h : x ≠ y) => by omega) List.nodup_range
    · obtain ⟨j, hj, rfl⟩ := List.mem_map.1 hx
      have := List.mem_range.1 hj
      exact ⟨by omega, by omega, hn _ (by omega) (by omega), begin_only l hn hp _⟩
  · obtain ⟨k, hk, hc, hn, hK⟩ := cells_parts l (beginI l a) b0 b1 hF
    rw [cells_of_begin l a _ rfl b0 b1 hF, hc]
    have hne : a ≠ beginI l a := fun e => by rw [← e, ha] at hF; cases hF
    obtain ⟨i, hi, e⟩ := parts_all l (beginI l a) b0 b1 k hk hK a a0 a1 rfl hne
    unfold uptoI
    refine ⟨List.mem_map.2 ⟨i, List.mem_range.2 hi, e⟩, ?_, fun x hx => ?_⟩
    · rw [List.Nodup, List.pairwise_map]
      refine List.Pairwise.imp_of_mem ?_ List.nodup_range
      intro x y hx hy hxy he
      have hx' := List.mem_range.1 hx
      have hy' := List.mem_range.1 hy
      rw [way_val _ _ _ b0 b1 (by omega), way_val _ _ _ b0 b1 (by omega)] at he
      revert he; split <;> split <;> omega
    · obtain ⟨j, hj, rfl⟩ := List.mem_map.1 hx
      have hj' := List.mem_range.1 hj
      exact ⟨wayI_nonneg hp _ _ _, wayI_lt hp _ _ _, hn j hj', parts_in l _ b0 b1 hF k hk hn j hj'⟩
end Go.Proofs.YtgboplhcjhlabaaDoor.P
namespace Go.Proofs.YtgboplhcjhlabaaDoor.P
open Go.RowKit Go.Proofs.YtgboplhcjhlabaaDoorW.PrintWords Go.Proofs.YtgboplhcjhlabaaDoorW.PrintLast
set_option linter.unusedVariables false
set_option linter.unusedSimpArgs false
theorem fCopy_eq (r c : Int) (l : List S44) (cu : Int) (lo ins : Bool) (hn : l.length ≤ 16383) : grid_Copy.f r c l cu lo ins = some (r, c, l, cu, lo, ins) := by
  unfold grid_Copy.f slices_Clone_shutter_api_Cell_shutter_api_Cell.f
  rw [if_pos hn]; rfl
/-- the line of a cell -/
def rowI (l : List S44) (a : Int) : List Int := if openI l a = true then (cellsI l a).dropWhile (fun x => x != a) else []
theorem open_isF {l : List S44} {a : Int} (h : openI l a = true) : isF l a = false := by
  unfold openI at h; cases hf : isF l a
  · rfl
  · rw [hf] at h; cases h
theorem rd_nat_int (L : List Int) (k : Nat) (hk : k < L.length) : rd L (k : Int) = L[k] := by unfold rd; simp [hk]
/-- a cell, modified -/
def modC (x : S44) : S44 := ⟨x.f0, ⟨x.f1.f0, x.f1.f1, x.f1.f2, true⟩, x.f2⟩
/-- a cell's field, modified -/
def modI (l : List S44) (a : Int) : List S44 := if 0 ≤ beginI l a then l.set (beginI l a).toNat (modC (rd_T44 l (beginI l a))) else l
theorem modI_length (l : List S44) (a : Int) : (modI l a).length = l.length := by unfold modI; split <;> simp
end Go.Proofs.YtgboplhcjhlabaaDoor.P
namespace Go.Proofs.YtgboplhcjhlabaaDoor.P
open Go.RowKit Go.Proofs.YtgboplhcjhlabaaDoorW.PrintWords Go.Proofs.YtgboplhcjhlabaaDoorW.PrintLast
set_option linter.unusedVariables false
set_option linter.unusedSimpArgs false
theorem ff_ : ¬ (false = true) := by decide
theorem pos_ {α : Type} {P : Prop} [Decidable P] {x y z : α} (h : P) (e : x = z) : (if P then x else y) = z := by rw [if_pos h]; exact e
theorem neg_ {α : Type} {P : Prop} [Decidable P] {x y z : α} (h : ¬ P) (e : y = z) : (if P then x else y) = z := by rw [if_neg h]; exact e
theorem rd_set (l : List S44) (x y : Int) (v : S44) (x0 : 0 ≤ x) (x1 : x < l.length) (y0 : 0 ≤ y) : rd_T44 (l.set (x : Int).toNat v) y = if x = y then v else rd_T44 l y := by
  obtain ⟨m, rfl⟩ := Int.eq_ofNat_of_zero_le x0
  obtain ⟨n, rfl⟩ := Int.eq_ofNat_of_zero_le y0
  simp only [rd_T44, Int.toNat_natCast, List.getD_eq_getElem?_getD, List.getElem?_set]
  by_cases h : m = n
  · subst h; rw [if_pos rfl, if_pos rfl, if_pos (by omega)]; rfl
  · rw [if_neg h, if_neg (by omega)]
theorem row_open {l : List S44} {a : Int} (a0 : 0 ≤ a) (a1 : a < l.length) (ho : openI l a = true) :
    (rowI l a).Nodup ∧ (∀ x ∈ rowI l a, 0 ≤ x ∧ x < l.length ∧ isF l x = false ∧ beginI l x = beginI l a) ∧ 0 < (rowI l a).length ∧ rd (rowI l a) 0 = a := by
  obtain ⟨h1, h2, h3⟩ := cells_all l a a0 a1 (open_isF ho)
  have e : rowI l a = (cellsI l a).dropWhile (fun x => x != a) := by unfold rowI; rw [if_pos ho]
  have hsub : (rowI l a).Sublist (cellsI l a) := by rw [e]; exact List.dropWhile_sublist _
  have hhead : ∀ L : List Int, a ∈ L → ∃ t, L.dropWhile (fun x => x != a) = a :: t := by
    intro L
    induction L with
    | nil => intro h; cases h
    | cons x t ih =>
      intro h
      rw [List.dropWhile_cons]
      by_cases hx : x = a
      · subst hx; exact ⟨t, by simp⟩
      · rw [if_pos (by simpa using hx)]
        rcases List.mem_cons.1 h with h | h
        · exact absurd h.symm hx
        · exact ih h
  obtain ⟨t, ht⟩ := hhead _ h1
  refine ⟨h2.sublist hsub, fun x hx => h3 x (hsub.subset hx), ?_, ?_⟩
  · rw [e, ht]; simp
  · rw [e, ht]; rfl
theorem rd_mem (L : List Int) (i : Nat) (hi : i < L.length) : rd L (i : Int) ∈ L := by rw [rd_nat_int L i hi]; exact List.getElem_mem hi
theorem rd_inj {L : List Int} (h : L.Nodup) {i j : Nat} (hi : i < L.length) (hj : j < L.length) (e : rd L (i : Int) = rd L (j : Int)) : i = j := by
  rw [rd_nat_int L i hi, rd_nat_int L j hj] at e
  rcases Nat.lt_trichotomy i j with hij | hij | hij
  · exact absurd e (List.pairwise_iff_getElem.1 h i j hi hj hij)
  · exact hij
  · exact absurd e.symm (List.pairwise_iff_getElem.1 h j i hj hi hij)
theorem rd_mem_cells (l : List S44) (x : Int) (x0 : 0 ≤ x) (x1 : x < l.length) : rd_T44 l x ∈ l := by
  obtain ⟨m, rfl⟩ := Int.eq_ofNat_of_zero_le x0
  rw [rd_nat l m (by omega)]; exact List.getElem_mem _
theorem mem_rd (l : List S44) (x : S44) (hx : x ∈ l) : ∃ y : Int, 0 ≤ y ∧ y < l.length ∧ rd_T44 l y = x := by
  obtain ⟨m, hm, e⟩ := List.getElem_of_mem hx
  exact ⟨m, by omega, by omega, by rw [rd_nat l m (by omega)]; exact e⟩
theorem modI_rd (l : List S44) (a : Int) (hp : 0 < l.length) (x : Int) (x0 : 0 ≤ x) (h : isF l x = false) : rd_T44 (modI l a) x = rd_T44 l x := by
  unfold modI
  rcases begin_range l a hp with hb | ⟨b0, b1, hF⟩
  · rw [hb, if_neg (by decide)]
  · rw [if_pos b0, rd_set l _ x _ b0 b1 x0, if_neg (fun e => by rw [e, h] at hF; cases hF)]
theorem modI_cases (l : List S44) (a : Int) (hp : 0 < l.length) (y : Int) (y0 : 0 ≤ y) : (y = beginI l a ∧ isF l y = true ∧ rd_T44 (modI l a) y = modC (rd_T44 l y)) ∨ (y ≠ beginI l a ∧ rd_T44 (modI l a) y = rd_T44 l y) := by
  unfold modI
  rcases begin_range l a hp with hb | ⟨b0, b1, hF⟩
  · right; exact ⟨by omega, by rw [hb, if_neg (by decide)]⟩
  · rw [if_pos b0, rd_set l _ y _ b0 b1 y0]
    by_cases h : beginI l a = y
    · left; exact ⟨h.symm, by rw [← h]; exact hF, by rw [if_pos h, h]⟩
    · right; exact ⟨fun e => h e.symm, if_neg h⟩
theorem findW_alike {p q : Int → Bool} {g : Nat → Int} (h : ∀ j, p (g j) = q (g j)) : ∀ c s, findW p g c s = findW q g c s
  | 0, s => rfl
  | c + 1, s => by unfold findW; rw [h s, findW_alike h c]
/-- the fields of both begin at the same cells, and are open and numeric alike -/
structure SameF (l l' : List S44) : Prop where
  len : l'.length = l.length
  f : ∀ y : Int, 0 ≤ y → isF l' y = isF l y
  a0 : ∀ y : Int, 0 ≤ y → isF l y = true → (rd_T44 l' y).f1.f0 = (rd_T44 l y).f1.f0
  a1 : ∀ y : Int, 0 ≤ y → isF l y = true → (rd_T44 l' y).f1.f1 = (rd_T44 l y).f1.f1
theorem SameF.begin {l l' : List S44} (h : SameF l l') (hp : 0 < l.length) (x : Int) : beginI l' x = beginI l x := by
  unfold beginI
  rw [h.len]
  exact findW_alike (fun j => h.f _ (Int.emod_nonneg _ (by omega))) _ _
theorem SameF.of0 {l l' : List S44} (h : SameF l l') (hp : 0 < l.length) (x : Int) : (ofI l' x).f0 = (ofI l x).f0 := by
  unfold ofI
  rw [h.begin hp]
  rcases begin_range l x hp with hb | ⟨b0, b1, hF⟩
  · rw [hb, if_pos (by decide), if_pos (by decide)]
  · rw [if_neg (by omega), if_neg (by omega)]; exact h.a0 _ b0 hF
theorem SameF.open {l l' : List S44} (h : SameF l l') (hp : 0 < l.length) (x : Int) (x0 : 0 ≤ x) : openI l' x = openI l x := by
  unfold openI; rw [h.f x x0, h.of0 hp]
theorem SameF.trans {l l' l'' : List S44} (h : SameF l l') (h' : SameF l' l'') : SameF l l'' :=
  ⟨h'.len.trans h.len, fun y y0 => (h'.f y y0).trans (h.f y y0), fun y y0 e => (h'.a0 y y0 ((h.f y y0).trans e)).trans (h.a0 y y0 e), fun y y0 e => (h'.a1 y y0 ((h.f y y0).trans e)).trans (h.a1 y y0 e)⟩
def newC (a : Int) : S44 := ⟨false, ⟨false, false, 0, false⟩, a⟩
/-- a cell of a right screen that begins no field bears a character alone -/
theorem plain_cell {l : List S44} (ok : ∀ x ∈ l, okC x = true) (x : Int) (x0 : 0 ≤ x) (x1 : x < l.length) (h : isF l x = false) : rd_T44 l x = newC (rd_T44 l x).f2 := by
  have := ok _ (rd_mem_cells l x x0 x1)
  unfold isF at h
  revert this h
  generalize rd_T44 l x = z
  obtain ⟨z0, ⟨z1, z2, z3, z4⟩, z5⟩ := z
  intro h this
  change z0 = false at h
  subst h
  unfold okC at this
  simp only [Bool.false_eq_true, if_false, Bool.and_eq_true, Bool.not_eq_true', beq_iff_eq] at this
  obtain ⟨⟨e1, e2, e3, e4⟩, _⟩ := this
  subst e1 e2 e3 e4
  rfl
end Go.Proofs.YtgboplhcjhlabaaDoor.P
namespace Go.Proofs.YtgboplhcjhlabaaDoor.P
open Go.RowKit Go.Proofs.YtgboplhcjhlabaaDoorW.PrintWords Go.Proofs.YtgboplhcjhlabaaDoorW.PrintLast
set_option linter.unusedVariables false
set_option linter.unusedSimpArgs false
def charC (c : S44) (v : Int) : S44 := ⟨c.f0, ⟨c.f1.f0, c.f1.f1, c.f1.f2, c.f1.f3⟩, v⟩
def sweep (p : Int → Bool) (g : S44 → S44) : Nat → Int → List S44 → List S44
  | 0, _, a => a
  | d + 1, x, a => sweep p g d (x + 1) (if p x = true then a.set (x : Int).toNat (g (rd_T44 a x)) else a)
theorem sweep_length (p : Int → Bool) (g : S44 → S44) : ∀ d x a, (sweep p g d x a).length = a.length
  | 0, x, a => rfl
  | d + 1, x, a => by
    unfold sweep; rw [sweep_length p g d]; split
    · rw [List.length_set]
    · rfl
theorem sweep_rd (p : Int → Bool) (g : S44 → S44) : ∀ (d : Nat) (x : Int) (a : List S44), 0 ≤ x → x + d ≤ a.length → ∀ y : Int, 0 ≤ y → rd_T44 (sweep p g d x a) y = if x ≤ y ∧ y < x + d ∧ p y = true then g (rd_T44 a y) else rd_T44 a y
  | 0, x, a, x0, hx, y, y0 => by rw [if_neg (by omega)]; rfl
  | d + 1, x, a, x0, hx, y, y0 => by
    unfold sweep
    have hl : (if p x = true then a.set (x : Int).toNat (g (rd_T44 a x)) else a).length = a.length := by split <;> simp
    rw [sweep_rd p g d (x + 1) _ (by omega) (by rw [hl]; omega) y y0]
    by_cases hp : p x = true
    · rw [if_pos hp, rd_set a x y _ x0 (by omega) y0]
      by_cases e : x = y
      · subst e; rw [if_neg (by omega), if_pos rfl, if_pos ⟨by omega, by omega, hp⟩]
      · rw [if_neg e]
        by_cases h : x + 1 ≤ y ∧ y < x + 1 + d ∧ p y = true
        · rw [if_pos h, if_pos ⟨by omega, by omega, h.2.2⟩]
        · rw [if_neg h, if_neg (fun h' => h ⟨by omega, by omega, h'.2.2⟩)]
    · rw [if_neg hp]
      by_cases h : x + 1 ≤ y ∧ y < x + 1 + d ∧ p y = true
      · rw [if_pos h, if_pos ⟨by omega, by omega, h.2.2⟩]
      · rw [if_neg h, if_neg (fun h' => h ⟨by
          have : x ≠ y := fun e => hp (by rw [e]; exact h'.2.2)
          omega, by omega, h'.2.2⟩)]
theorem rd_map (all : Bool) (l : List S44) (y : Int) (y0 : 0 ≤ y) (y1 : y < l.length) : rd_T44 (l.map (resetC all)) y = resetC all (rd_T44 l y) := by
  obtain ⟨m, rfl⟩ := Int.eq_ofNat_of_zero_le y0
  rw [rd_nat l m (by omega), rd_nat _ m (by rw [List.length_map]; omega), List.getElem_map]
/-- all input erased -/
def allI (l : List S44) : List S44 := sweep (openI l) (fun c => charC c 0) l.length 0 (l.map (resetC false))
theorem allI_length (l : List S44) : (allI l).length = l.length := by unfold allI; rw [sweep_length, List.length_map]
theorem allI_rd (l : List S44) (y : Int) (y0 : 0 ≤ y) (y1 : y < l.length) : rd_T44 (allI l) y = if openI l y = true then charC (resetC false (rd_T44 l y)) 0 else resetC false (rd_T44 l y) := by
  unfold allI
  rw [sweep_rd _ _ l.length 0 _ (by omega) (by rw [List.length_map]; omega) y y0, rd_map false l y y0 y1]
  by_cases h : openI l y = true
  · rw [if_pos h, if_pos ⟨y0, by omega, h⟩]
  · rw [if_neg h, if_neg (fun h' => h h'.2.2)]
/-- the first open cell -/
def homeI (l : List S44) : Int := mx 0 (nextI l ((l.length : Int) - 1))
def wipeV (kind : Int) (l : List S44) (row : List Int) (x : Int) : Int := if kind = 12 ∧ x + 1 < row.length then (rd_T44 l (rd row (x + 1))).f2 else 0
def wipeL (v : Int → Int) (row : List Int) : Nat → Int → List S44 → List S44
  | 0, _, a => a
  | d + 1, x, a => wipeL v row d (x + 1) (a.set (rd row x).toNat (charC (rd_T44 a (rd row x)) (v x)))
theorem wipeL_length (v : Int → Int) (row : List Int) : ∀ d x a, (wipeL v row d x a).length = a.length
  | 0, x, a => rfl
  | d + 1, x, a => by unfold wipeL; rw [wipeL_length v row d, List.length_set]
theorem wipeL_rd (v : Int → Int) (row : List Int) (hnd : row.Nodup) (n : Nat) (hr : ∀ x ∈ row, 0 ≤ x ∧ x < n) : ∀ (d x : Nat) (a : List S44), a.length = n → x + d ≤ row.length →
    (∀ i : Nat, x ≤ i → i < x + d → rd_T44 (wipeL v row d (x : Int) a) (rd row (i : Int)) = charC (rd_T44 a (rd row (i : Int))) (v (i : Int))) ∧ (∀ y : Int, 0 ≤ y → (∀ i : Nat, x ≤ i → i < x + d → rd row (i : Int) ≠ y) → rd_T44 (wipeL v row d (x : Int) a) y = rd_T44 a y)
  | 0, x, a, ha, hx => ⟨fun i h1 h2 => by omega, fun y _ _ => rfl⟩
  | d + 1, x, a, ha, hx => by
    have hm := hr _ (rd_mem row x (by omega))
    obtain ⟨i1, i2⟩ := wipeL_rd v row hnd n hr d (x + 1) (a.set (rd row (x : Int)).toNat (charC (rd_T44 a (rd row (x : Int))) (v (x : Int)))) (by rw [List.length_set]; exact ha) (by omega)
    have hs := fun y (y0 : 0 ≤ y) => rd_set a (rd row (x : Int)) y (charC (rd_T44 a (rd row (x : Int))) (v (x : Int))) hm.1 (by omega) y0
    have ex : ((x : Int) + 1) = ((x + 1 : Nat) : Int) := by omega
    unfold wipeL
    rw [ex]
    refine ⟨fun i h1 h2 => ?_, fun y y0 hy => ?_⟩
    · by_cases e : i = x
      · subst e
        rw [i2 _ hm.1 (fun j j1 j2 he => by have := rd_inj hnd (by omega) (by omega) he; omega), hs _ hm.1, if_pos rfl]
      · rw [i1 i (by omega) (by omega), hs _ (hr _ (rd_mem row i (by omega))).1, if_neg (fun he => by have := rd_inj hnd (by omega) (by omega) he; omega)]
    · rw [i2 y y0 (fun j j1 j2 => hy j (by omega) (by omega)), hs y y0, if_neg (hy x (Nat.le_refl _) (by omega))]
/-- the cells behind a key that wipes -/
def wipeI (l : List S44) (cu kind : Int) : List S44 := if kind = 14 then allI l else wipeL (wipeV kind l (rowI l cu)) (rowI l cu) (rowI l cu).length 0 (modI l cu)
theorem wipeI_length (l : List S44) (cu kind : Int) : (wipeI l cu kind).length = l.length := by
  unfold wipeI; split
  · exact allI_length l
  · rw [wipeL_length, modI_length]
end Go.Proofs.YtgboplhcjhlabaaDoor.P
namespace Go.Proofs.YtgboplhcjhlabaaDoor.P
open Go.RowKit Go.Proofs.YtgboplhcjhlabaaDoorW.PrintWords Go.Proofs.YtgboplhcjhlabaaDoorW.PrintLast
set_option linter.unusedVariables false
set_option linter.unusedSimpArgs false
theorem fclean_loop (r c : Int) (l : List S44) (cu : Int) (lo ins : Bool) (hn : l.length ≤ 16383) (hp : 0 < l.length) (r' c' cu' : Int) (lo' ins' : Bool) : ∀ (d K : Nat) (x : Int) (a : List S44), 0 ≤ x → x + d = l.length → a.length = l.length → d < K →
    host_clean.l0 K (l.length : Int) x r c l cu lo ins r' c' a cu' lo' ins' = some (r', c', sweep (openI l) (fun c => charC c 0) d x a, homeI l, lo', ins')
  | 0, K, x, a, x0, hx, ha, hk => by
    obtain ⟨K, rfl⟩ : ∃ m, K = m + 1 := ⟨K - 1, by omega⟩
    rw [host_clean.l0, if_neg (by omega), w64 (by omega), fNext_eq r c l cu lo ins _ hn (by omega) (by omega), Option.bind_some]; rfl
  | d + 1, K, x, a, x0, hx, ha, hk => by
    obtain ⟨K, rfl⟩ : ∃ m, K = m + 1 := ⟨K - 1, by omega⟩
    rw [host_clean.l0, if_pos (by omega), fOpen_eq r c l cu lo ins x hn x0 (by omega), Option.bind_some, w64 (by omega)]
    unfold sweep
    by_cases h : openI l x = true
    · rw [if_pos h, if_pos x0, if_pos (by omega), if_pos h]
      exact fclean_loop r c l cu lo ins hn hp r' c' cu' lo' ins' d K (x + 1) _ (by omega) (by omega) (by rw [List.length_set]; exact ha) (by omega)
    · rw [if_neg h, if_neg h]
      exact fclean_loop r c l cu lo ins hn hp r' c' cu' lo' ins' d K (x + 1) a (by omega) (by omega) ha (by omega)
theorem fclean_eq (K : Nat) (r c : Int) (l : List S44) (cu : Int) (lo ins : Bool) (hn : l.length ≤ 16383) (hp : 0 < l.length) (hk : l.length < K) : host_clean.f K r c l cu lo ins = some (r, c, allI l, homeI l, lo, ins) := by
  unfold host_clean.f host_Reset.f
  rw [if_pos hn, Option.bind_some]
  exact fclean_loop r c l cu lo ins hn hp r c cu lo ins l.length K 0 _ (by omega) (by omega) (by rw [List.length_map]) hk
theorem write_clean (K : Nat) (size : Int) (hk : 3 < K) : stream_Write.f K 111 false false false [] size = some ([111], none, []) := by
  obtain ⟨K, rfl⟩ : ∃ m, K = m + 4 := ⟨K - 4, by omega⟩
  unfold stream_Write.f
  rw [show stream_known.f (K + 4) 111 = some true from rfl, Option.bind_some, if_pos rfl, Option.bind_some, show stream_Writes.f 111 = some false from rfl, Option.bind_some]
  rfl
/-- the host's Clean -/
theorem hclean_eq (K : Nat) (r c : Int) (l : List S44) (cu : Int) (lo ins : Bool) (hn : l.length ≤ 16383) (hp : 0 < l.length) (hk : l.length + 3 < K) : host_Do.f K r c l cu lo ins 111 false false false [] = some (r, c, allI l, homeI l, false, false, none, []) := by
  unfold host_Do.f
  rw [show grid_Size.f r c l cu lo ins = some (l.length : Int) from rfl, Option.bind_some, write_clean K _ (by omega), Option.bind_some]
  refine pos_ rfl ?_
  rw [fCopy_eq r c l cu lo ins hn, Option.bind_some]
  refine neg_ (by decide) (neg_ (by decide) (pos_ rfl ?_))
  show ((host_clean.f K r c l cu lo ins).bind _) = _
  rw [fclean_eq K r c l cu lo ins hn hp (by omega), Option.bind_some]
  rfl
end Go.Proofs.YtgboplhcjhlabaaDoor.P
namespace Go.Proofs.YtgboplhcjhlabaaDoor.P
open Go.RowKit Go.Proofs.YtgboplhcjhlabaaDoorW.PrintWords Go.Proofs.YtgboplhcjhlabaaDoorW.PrintLast
set_option linter.unusedVariables false
set_option linter.unusedSimpArgs false
theorem awake13_30 : shutterlaw13_awake.f 30 = some true := by decide +kernel
theorem awake13_eq (k : Nat) (hk : 30 ≤ k) : shutterlaw13_awake.f k = some true := by
  obtain ⟨d, rfl⟩ : ∃ d, k = 30 + d := ⟨k - 30, by omega⟩
  clear hk
  induction d with
  | zero => exact awake13_30
  | succ d ih => exact shutterlaw13_awake.mono _ _ ih
end Go.Proofs.YtgboplhcjhlabaaDoor.P
namespace Go.Proofs.YtgboplhcjhlabaaDoor.P
open Go.RowKit Go.Proofs.YtgboplhcjhlabaaDoorW.PrintWords Go.Proofs.YtgboplhcjhlabaaDoorW.PrintLast
set_option linter.unusedVariables false
set_option linter.unusedSimpArgs false
def setM (b : Bool) (c : S44) : S44 := ⟨c.f0, ⟨c.f1.f0, c.f1.f1, c.f1.f2, b⟩, c.f2⟩
theorem okC_setM (b : Bool) (x : S44) (hf : x.f0 = true) (h : okC x = true) : okC (setM b x) = true := by
  unfold okC at h ⊢
  rw [if_pos hf] at h
  rw [if_pos (show (setM b x).f0 = true from hf)]; exact h
theorem begin_self (l : List S44) (y : Int) (y0 : 0 ≤ y) (y1 : y < l.length) (h : isF l y = true) : beginI l y = y := by
  have e : (y - (0 : Nat)) % (l.length : Int) = y := by rw [show y - ((0 : Nat) : Int) = y by omega]; exact Int.emod_eq_of_lt y0 y1
  rw [begin_at l y 0 (by omega) (by rw [e]; exact h) (fun i hi => by omega), e]
theorem home_range (l : List S44) (hp : 0 < l.length) : 0 ≤ homeI l ∧ homeI l < l.length := by
  unfold homeI
  by_cases h : nextI l ((l.length : Int) - 1) = -1
  · rw [h]; exact ⟨by decide, by show (0 : Int) < _; omega⟩
  · obtain ⟨e, _, _, _, he⟩ := next_ent l ((l.length : Int) - 1) hp h
    have h0 := onI_nonneg hp e 1
    have h1 := onI_lt hp e 1
    rw [he]; unfold mx; split <;> omega
theorem open_begin {l : List S44} {x y : Int} (hx : openI l x = true) (hF : isF l y = false) (hb : beginI l y = beginI l x) : openI l y = true := by
  unfold openI ofI at hx ⊢
  rw [hb, hF]
  rw [Bool.and_eq_true] at hx
  rw [Bool.and_eq_true]; exact ⟨rfl, hx.2⟩
theorem reset_plain {c : S44} {v : Int} (h : c = newC v) (all : Bool) : resetC all c = c := by
  subst h; unfold resetC newC; split <;> rfl
theorem reset_setM (all : Bool) (c : S44) : ∃ b, resetC all c = setM b c := by
  unfold resetC; split
  · exact ⟨false, rfl⟩
  · exact ⟨c.f1.f3, rfl⟩
theorem all_cases {r c : Int} {l : List S44} {cu : Int} (h : RightI r c l cu) (y : Int) (y0 : 0 ≤ y) (y1 : y < l.length) :
    rd_T44 (allI l) y = rd_T44 l y ∨ (isF l y = true ∧ ∃ b, rd_T44 (allI l) y = setM b (rd_T44 l y)) ∨ (openI l y = true ∧ rd_T44 (allI l) y = newC 0) := by
  rw [allI_rd l y y0 y1]
  cases hF : isF l y with
  | true =>
    have ho : ¬ openI l y = true := fun ho => by rw [open_isF ho] at hF; cases hF
    rw [if_neg ho]
    exact .inr (.inl ⟨rfl, reset_setM false _⟩)
  | false =>
    have hp := plain_cell h.ok y y0 y1 hF
    rw [reset_plain hp]
    by_cases ho : openI l y = true
    · rw [if_pos ho]; right; right; refine ⟨ho, ?_⟩; rw [hp]; rfl
    · rw [if_neg ho]; exact .inl rfl
theorem wipe_cases {r c : Int} {l : List S44} {cu : Int} (h : RightI r c l cu) (kind : Int) (ho : kind ≠ 14 → openI l cu = true) (y : Int) (y0 : 0 ≤ y) (y1 : y < l.length) :
    rd_T44 (wipeI l cu kind) y = rd_T44 l y ∨ ((kind = 14 ∨ beginI l y = beginI l cu) ∧ isF l y = true ∧ ∃ b, rd_T44 (wipeI l cu kind) y = setM b (rd_T44 l y)) ∨ ((kind = 14 ∨ beginI l y = beginI l cu) ∧ openI l y = true ∧ ∃ v, rd_T44 (wipeI l cu kind) y = newC v ∧ okC (newC v) = true) := by
  have hp : 0 < l.length := by have := h.cu0; have := h.cu1; omega
  unfold wipeI
  by_cases h14 : kind = 14
  · rw [if_pos h14]
    rcases all_cases h y y0 y1 with e | ⟨e1, e2⟩ | ⟨e1, e2⟩
    · exact .inl e
    · exact .inr (.inl ⟨.inl h14, e1, e2⟩)
    · exact .inr (.inr ⟨.inl h14, e1, 0, e2, rfl⟩)
  · rw [if_neg h14]
    have hop := ho h14
    obtain ⟨hnd, hr, _, _⟩ := row_open h.cu0 h.cu1 hop
    obtain ⟨w1, w2⟩ := wipeL_rd (wipeV kind l (rowI l cu)) (rowI l cu) hnd l.length (fun x hx => ⟨(hr x hx).1, (hr x hx).2.1⟩) (rowI l cu).length 0 (modI l cu) (modI_length l cu) (by omega)
    rw [show ((0 : Nat) : Int) = 0 from rfl] at w1 w2
    by_cases hin : ∃ t : Nat, t < (rowI l cu).length ∧ rd (rowI l cu) (t : Int) = y
    · obtain ⟨t, t1, et⟩ := hin
      obtain ⟨_, _, hyF, hyb⟩ := hr _ (rd_mem (rowI l cu) t t1)
      have := w1 t (by omega) (by omega)
      rw [et] at hyF hyb this
      refine .inr (.inr ⟨.inr hyb, open_begin hop hyF hyb, wipeV kind l (rowI l cu) (t : Int), ?_, ?_⟩)
      · rw [this, modI_rd l cu hp y y0 hyF, plain_cell h.ok y y0 y1 hyF]; rfl
      · unfold wipeV; split
        · rename_i hv
          obtain ⟨z0, z1, hzF, _⟩ := hr _ (rd_mem (rowI l cu) (t + 1) (by omega))
          rw [show ((t + 1 : Nat) : Int) = (t : Int) + 1 by omega] at z0 z1 hzF
          rw [← plain_cell h.ok _ z0 z1 hzF]; exact h.ok _ (rd_mem_cells l _ z0 z1)
        · rfl
    · rw [w2 y y0 (fun t _ t2 e => hin ⟨t, by omega, e⟩)]
      rcases modI_cases l cu hp y y0 with ⟨e1, e2, e3⟩ | ⟨_, e⟩
      · exact .inr (.inl ⟨.inr (by rw [begin_self l y y0 y1 e2]; exact e1), e2, true, e3⟩)
      · exact .inl e
theorem wipe_right {r c : Int} {l : List S44} {cu : Int} (h : RightI r c l cu) (kind : Int) (ho : kind ≠ 14 → openI l cu = true) : RightI r c (wipeI l cu kind) (if kind = 14 then homeI l else cu) := by
  have hl := wipeI_length l cu kind
  have hp : 0 < l.length := by have := h.cu0; have := h.cu1; omega
  have hh := home_range l hp
  refine ⟨h.r1, h.c1, h.r2, h.c2, h.rc, by rw [hl]; exact h.len, ?_, ?_, fun x hx => ?_⟩
  · split
    · exact hh.1
    · exact h.cu0
  · rw [hl]; split
    · exact hh.2
    · exact h.cu1
  obtain ⟨y, y0, y1, e⟩ := mem_rd _ x hx
  rw [hl] at y1
  rw [← e]
  rcases wipe_cases h kind ho y y0 y1 with e | ⟨_, hF, b, e⟩ | ⟨_, _, v, e, hv⟩
  · rw [e]; exact h.ok _ (rd_mem_cells l y y0 y1)
  · rw [e]; exact okC_setM b _ hF (h.ok _ (rd_mem_cells l y y0 y1))
  · rw [e]; exact hv
end Go.Proofs.YtgboplhcjhlabaaDoor.P
namespace Go.Proofs.YtgboplhcjhlabaaDoor.P
open Go.RowKit Go.Proofs.YtgboplhcjhlabaaDoorW.PrintWords Go.Proofs.YtgboplhcjhlabaaDoorW.PrintLast
set_option linter.unusedVariables false
set_option linter.unusedSimpArgs false
theorem takeW_alike {p q : Int → Bool} {g : Nat → Int} (h : ∀ j, p (g j) = q (g j)) : ∀ c s, takeW p g c s = takeW q g c s
  | 0, s => rfl
  | c + 1, s => by unfold takeW; rw [h s, takeW_alike h c]
theorem SameF.cells {l l' : List S44} (h : SameF l l') (hp : 0 < l.length) (x : Int) : cellsI l' x = cellsI l x := by
  unfold cellsI
  rw [h.begin hp, h.len, takeW_alike (q := isF l) (fun j => h.f _ (way_nn _ hp _ _ _))]
theorem SameF.row {l l' : List S44} (h : SameF l l') (hp : 0 < l.length) (x : Int) (x0 : 0 ≤ x) : rowI l' x = rowI l x := by
  unfold rowI; rw [h.open hp x x0, h.cells hp]
theorem SameF.ent {l l' : List S44} (h : SameF l l') (hp : 0 < l.length) (y : Int) (y0 : 0 ≤ y) : entI l' y = entI l y := by
  unfold entI
  rw [h.f y y0, h.len, h.f _ (onI_nonneg hp y 1)]
  cases hF : isF l y with
  | false => rfl
  | true =>
    have : protI l' y = protI l y := h.a0 y y0 hF
    rw [this]
theorem SameF.next {l l' : List S44} (h : SameF l l') (hp : 0 < l.length) (a : Int) : nextI l' a = nextI l a := by
  unfold nextI firstI
  rw [h.len, findW_alike (q := entI l) (fun j => h.ent hp _ (way_nn _ hp _ _ _))]
theorem rd_over (l : List S44) (y : Int) (h : (l.length : Int) ≤ y) : rd_T44 l y = z44 := by
  simp only [rd_T44, List.getD_eq_getElem?_getD]
  rw [List.getElem?_eq_none (by omega)]; rfl
theorem reset_f (all : Bool) (c : S44) : (resetC all c).f0 = c.f0 ∧ (resetC all c).f1.f0 = c.f1.f0 ∧ (resetC all c).f1.f1 = c.f1.f1 := by unfold resetC; split <;> exact ⟨rfl, rfl, rfl⟩
theorem sameF_all (l : List S44) : SameF l (allI l) := by
  have hl := allI_length l
  have h : ∀ y : Int, 0 ≤ y → (rd_T44 (allI l) y).f0 = (rd_T44 l y).f0 ∧ (rd_T44 (allI l) y).f1.f0 = (rd_T44 l y).f1.f0 ∧ (rd_T44 (allI l) y).f1.f1 = (rd_T44 l y).f1.f1 := fun y y0 => by
    by_cases hy : y < l.length
    · rw [allI_rd l y y0 hy]
      split
      · exact reset_f false _
      · exact reset_f false _
    · rw [rd_over l y (by omega), rd_over (allI l) y (by omega)]; exact ⟨rfl, rfl, rfl⟩
  exact ⟨hl, fun y y0 => (h y y0).1, fun y y0 _ => (h y y0).2.1, fun y y0 _ => (h y y0).2.2⟩
end Go.Proofs.YtgboplhcjhlabaaDoor.P
namespace Go.Proofs.YtgboplhcjhlabaaDoor.P
open Go.RowKit Go.Proofs.YtgboplhcjhlabaaDoorW.PrintWords Go.Proofs.YtgboplhcjhlabaaDoorW.PrintLast
set_option linter.unusedVariables false
set_option linter.unusedSimpArgs false
theorem clean_end (K : Nat) (r c : Int) (l : List S44) (cu : Int) (lo ins : Bool) (hn : l.length ≤ 16383) (hp : 0 < l.length) (hk : l.length + 2 < K) (r' c' : Int) (lo' ins' : Bool) :
    ((shutterref11_Next.f K r c l cu lo ins 0).bind fun p => if p < 0 then (if homeI l = 0 then some true else ((shutterref11_Next.f K r c l cu lo ins 0).bind fun q => if q ≥ 0 then ((shutterref11_Open.f K r' c' (allI l) (homeI l) lo' ins' (homeI l)).bind fun x => some x) else none)) else ((shutterref11_Next.f K r c l cu lo ins 0).bind fun s => if s ≥ 0 then ((shutterref11_Open.f K r' c' (allI l) (homeI l) lo' ins' (homeI l)).bind fun t => some t) else none)) = some true := by
  have hl := allI_length l
  rw [rNext_eq K r c l cu lo ins 0 hn (by omega) (by omega) hk, Option.bind_some]
  by_cases h : nextI l 0 = -1
  · have h2 : nextI l ((l.length : Int) - 1) = -1 := (no_ent_next l _ hp).2 ((no_ent_next l 0 hp).1 h)
    rw [h, if_pos (by decide)]
    exact pos_ (by unfold homeI; rw [h2]; rfl) rfl
  · have h2 : nextI l ((l.length : Int) - 1) ≠ -1 := fun e => h ((no_ent_next l 0 hp).2 ((no_ent_next l _ hp).1 e))
    obtain ⟨e, e0, e1, he, hne⟩ := next_ent l 0 hp h
    obtain ⟨f, f0, f1, hf, hnf⟩ := next_ent l _ hp h2
    have g0 : 0 ≤ nextI l 0 := by rw [hne]; exact onI_nonneg hp e 1
    have q0 : 0 ≤ nextI l ((l.length : Int) - 1) := by rw [hnf]; exact onI_nonneg hp f 1
    have hh : homeI l = onI l.length f 1 := by unfold homeI mx; rw [← hnf]; split <;> omega
    obtain ⟨y0, y1⟩ := home_range l hp
    rw [if_neg (by omega), Option.bind_some, if_pos g0, rOpen_eq K r' c' (allI l) (homeI l) lo' ins' (homeI l) (by omega) y0 (by omega) (by omega), Option.bind_some, (sameF_all l).open hp _ y0, hh, first_isopen l f f0 f1 hf]
theorem hc_l0 (r c : Int) (l : List S44) (cu : Int) (lo ins : Bool) (hr : RightI r c l cu) (hn : l.length ≤ 16383) (r' c' : Int) (lo' ins' : Bool) : ∀ (d K : Nat) (x : Int), 0 ≤ x → x + d = l.length → d + d + l.length + 4 < K →
    shutterlaw13_HostClean.l0 K x r c l cu lo ins r' c' (allI l) (homeI l) lo' ins' = some true
  | 0, K, x, x0, hx, hk => by
    obtain ⟨K, rfl⟩ : ∃ m, K = m + 1 := ⟨K - 1, by omega⟩
    rw [shutterlaw13_HostClean.l0, if_neg (by omega)]
    exact clean_end K r c l cu lo ins hn (by have := hr.cu0; have := hr.cu1; omega) (by omega) r' c' lo' ins'
  | d + 1, K, x, x0, hx, hk => by
    obtain ⟨K, rfl⟩ : ∃ m, K = m + 2 := ⟨K - 2, by omega⟩
    have hl := allI_length l
    have x1 : x < (l.length : Int) := by omega
    have hv := allI_rd l x x0 x1
    have i1 := hc_l0 r c l cu lo ins hr hn r' c' lo' ins' d (K + 1) (x + 1) (by omega) (by omega) (by omega)
    have i2 := hc_l0 r c l cu lo ins hr hn r' c' lo' ins' d K (x + 1) (by omega) (by omega) (by omega)
    rw [shutterlaw13_HostClean.l0, w64 (by omega)]
    refine pos_ x1 (pos_ x0 (pos_ (by omega) ?_))
    rw [rOpen_eq (K + 1) r c l cu lo ins x hn x0 x1 (by omega), Option.bind_some]
    by_cases ho : openI l x = true
    · rw [if_pos ho]
      rw [if_pos ho] at hv
      have hF := open_isF ho
      rw [hv, plain_cell hr.ok x x0 x1 hF, reset_plain rfl]
      exact neg_ (show ¬ (false = true) by decide) (pos_ rfl i1)
    · rw [if_neg ho]
      rw [if_neg ho] at hv
      rw [hv]
      cases hF : isF l x with
      | false =>
        have hp := plain_cell hr.ok x x0 x1 hF
        rw [reset_plain hp]
        refine neg_ (by rw [isF_rd, hF]; decide) ?_
        rw [shutterlaw13_HostClean.j1, w64 (by omega)]
        exact neg_ (by decide) (neg_ (by simp) i2)
      | true =>
        refine pos_ ((isF_rd l x).trans hF) ?_
        rw [shutterlaw13_HostClean.j1, w64 (by omega)]
        cases hq : (rd_T44 l x).f1.f0 with
        | true =>
          refine neg_ (by simp) (neg_ ?_ i2)
          simp [resetC, hq]
        | false =>
          refine pos_ (by simp) (neg_ ?_ i2)
          simp [resetC, hq]
theorem HostClean_pure (r c : Int) (l : List S44) (cu : Int) (lo ins : Bool) (wl : ∀ x ∈ l, wfC x) : shutterlaw13_HostClean.f 1000 r c l cu lo ins = some true := by
  unfold shutterlaw13_HostClean.f
  rw [awake13_eq 1000 (by omega), Option.bind_some, if_pos rfl]
  obtain ⟨t, ht, hi⟩ := rFew_eq 1000 r c l cu lo ins (by omega)
  rw [ht, Option.bind_some]
  cases t with
  | false => rw [if_neg (by decide), Option.bind_some]
  | true =>
    obtain ⟨hl, hr⟩ := hi.1 rfl
    have hp : 0 < l.length := by have := hr.cu0; have := hr.cu1; omega
    have ho := allI_length l
    have hR : RightI r c (allI l) (homeI l) := by
      have := wipe_right hr 14 (fun h => absurd rfl h)
      rw [if_pos rfl, show wipeI l cu 14 = allI l by unfold wipeI; rw [if_pos rfl]] at this; exact this
    rw [if_pos rfl, hclean_eq 1000 r c l cu lo ins (by omega) hp (by omega), Option.bind_some]
    refine pos_ rfl ?_
    obtain ⟨b, hb, hbi⟩ := rRight_eq 1000 r c (allI l) (homeI l) false false (by omega) (by omega)
    show ((shutterref10_Right.f 1000 r c (allI l) (homeI l) false false).bind _) = _
    rw [hb, Option.bind_some, hbi.2 hR, if_pos rfl]
    refine pos_ (by show (((allI l).length : Nat) : Int) = _; omega) (neg_ ff_ (neg_ ff_ ?_))
    exact hc_l0 r c l cu lo ins hr (by omega) r c false false l.length 1000 0 (by omega) (by omega) (by omega)
end Go.Proofs.YtgboplhcjhlabaaDoor.P
