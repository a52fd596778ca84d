/-
Where a move leads, over plain lists: move's own functions and the document's come to the same. No Go in it.
-/
import Derived.Test.YtapcfcagjlmgjaaDoorM2
import Derived.Test.YtapcfcagjlmgjaaDoorM3
import Derived.Test.YtapcfcagjlmgjaaDoorM4
import Derived.Test.YtapcfcagjlmgjaaDoorPx10
import Derived.Test.YtapcfcagjlmgjaaDoorPx11
import Derived.Test.YtapcfcagjlmgjaaDoorPx3
import Derived.Test.YtapcfcagjlmgjaaDoorPx5
import Derived.Test.YtapcfcagjlmgjaaDoorPx6
namespace Go.Proofs.YtapcfcagjlmgjaaDoor.P
open Go.RowKit Go.Proofs.YtapcfcagjlmgjaaDoorW.PrintWords Go.Proofs.YtapcfcagjlmgjaaDoorW.PrintLast
set_option linter.unusedVariables false
set_option linter.unusedSimpArgs false

theorem grid_On_eq (r c : Int) (l : List S44) (cu : Int) (lo ins : Bool) (a d : Int) (hn : l.length ≤ 16383) (h0 : 0 ≤ a) (h1 : a < l.length) : grid_On.f r c l cu lo ins a d = some (onI l.length a d) := grid_On.eq r c l cu lo ins a d hn h0 h1
theorem grid_Copy_eq (r c : Int) (l : List S44) (cu : Int) (lo ins : Bool) (hn : l.length ≤ 16383) : grid_Copy.f r c l cu lo ins = some (r, c, l, cu, lo, ins) := by
  unfold grid_Copy.f slices_Clone_shutter_api_Cell_shutter_api_Cell.f
  rw [if_pos hn]; rfl
/-! the cells from one on, up to another one -/
def spanN (n : Nat) (a b : Int) : Nat := if b = a then n else ((b - a) % (n : Int)).toNat
def spanI (n : Nat) (a b : Int) : List Int := uptoI (fun j => onI n a j) (spanN n a b)
theorem on_step (n : Nat) (a : Int) (j : Nat) : onI n (onI n a j) 1 = onI n a ((j + 1 : Nat) : Int) := by
  unfold onI
  rw [Int.emod_add_emod]
  congr 1
  omega
theorem on_zero (n : Nat) (a : Int) (h0 : 0 ≤ a) (h1 : a < n) : onI n a ((0 : Nat) : Int) = a := by
  unfold onI; rw [show a + ((0 : Nat) : Int) = a by omega]; exact Int.emod_eq_of_lt h0 h1
theorem on_over (x : Int) (n : Nat) (h0 : (n : Int) ≤ x) (h1 : x < 2 * n) : x % (n : Int) = x - n := by
  have h : (x - n) % (n : Int) = x % (n : Int) := by rw [Int.sub_emod, Int.emod_self, Int.sub_zero, Int.emod_emod_of_dvd _ (Int.dvd_refl _)]
  rw [← h]; exact Int.emod_eq_of_lt (by omega) (by omega)
theorem on_under (x : Int) (n : Nat) (h0 : -(n : Int) ≤ x) (h1 : x < 0) : x % (n : Int) = x + n := by
  have h : (x + n - n) % (n : Int) = (x + n) % (n : Int) := by rw [Int.sub_emod, Int.emod_self, Int.sub_zero, Int.emod_emod_of_dvd _ (Int.dvd_refl _)]
  rw [show x + n - n = x by omega] at h
  rw [h]; exact Int.emod_eq_of_lt (by omega) (by omega)
theorem on_val (n : Nat) (a : Int) (j : Nat) (h0 : 0 ≤ a) (h1 : a < n) (hj : j ≤ n) : onI n a (j : Int) = if a + j < n then a + j else a + j - n := by
  unfold onI
  by_cases h : a + j < n
  · rw [if_pos h]; exact Int.emod_eq_of_lt (by omega) h
  · rw [if_neg h]; exact on_over _ _ (by omega) (by omega)
theorem spanN_val (n : Nat) (a b : Int) (a0 : 0 ≤ a) (a1 : a < n) (b0 : 0 ≤ b) (b1 : b < n) : 1 ≤ spanN n a b ∧ spanN n a b ≤ n ∧ onI n a (spanN n a b) = b ∧ ∀ j, 1 ≤ j → j < spanN n a b → onI n a (j : Int) ≠ b := by
  unfold spanN
  by_cases h : b = a
  · rw [if_pos h]
    refine ⟨by omega, Nat.le_refl _, ?_, fun j j1 j2 => ?_⟩
    · rw [on_val n a n a0 a1 (by omega), if_neg (by omega)]; omega
    · rw [on_val n a j a0 a1 (by omega)]; split <;> omega
  · rw [if_neg h]
    have e : (b - a) % (n : Int) = if a < b then b - a else b - a + n := by
      by_cases hh : a < b
      · rw [if_pos hh]; exact Int.emod_eq_of_lt (by omega) (by omega)
      · rw [if_neg hh]; exact on_under _ _ (by omega) (by omega)
    rw [e]
    by_cases hh : a < b
    · rw [if_pos hh]
      refine ⟨by omega, by omega, ?_, fun j j1 j2 => ?_⟩
      · rw [on_val n a _ a0 a1 (by omega), if_pos (by omega)]; omega
      · rw [on_val n a j a0 a1 (by omega)]; split <;> omega
    · rw [if_neg hh]
      refine ⟨by omega, by omega, ?_, fun j j1 j2 => ?_⟩
      · rw [on_val n a _ a0 a1 (by omega), if_neg (by omega)]; omega
      · rw [on_val n a j a0 a1 (by omega)]; split <;> omega
theorem Span_loop (r c : Int) (l : List S44) (cu : Int) (lo ins : Bool) (a b : Int) (hn : l.length ≤ 16383) (a0 : 0 ≤ a) (a1 : a < l.length) (b0 : 0 ≤ b) (b1 : b < l.length) : ∀ (d K m : Nat), d + m = spanN l.length a b → 1 ≤ m → d < K →
    grid_Span.l0 K b (uptoI (fun j => onI l.length a j) m) (onI l.length a (m : Int)) r c l cu lo ins = some (spanI l.length a b)
  | 0, K, m, hd, h1, hK => by
    obtain ⟨K, rfl⟩ : ∃ z, K = z + 1 := ⟨K - 1, by omega⟩
    obtain ⟨_, _, v, _⟩ := spanN_val l.length a b a0 a1 b0 b1
    obtain rfl : m = spanN l.length a b := by omega
    rw [grid_Span.l0, if_pos v]; rfl
  | d + 1, K, m, hd, h1, hK => by
    obtain ⟨K, rfl⟩ : ∃ z, K = z + 1 := ⟨K - 1, by omega⟩
    obtain ⟨_, v1, _, v⟩ := spanN_val l.length a b a0 a1 b0 b1
    have ih := Span_loop r c l cu lo ins a b hn a0 a1 b0 b1 d K (m + 1) (by omega) (by omega) (by omega)
    have n0 := onI_nonneg (n := l.length) (by omega) a (m : Int)
    have n1 := onI_lt (n := l.length) (by omega) a (m : Int)
    rw [grid_Span.l0, if_neg (v m h1 (by omega)), if_pos (by rw [uptoI_length]; omega), if_pos (by rw [uptoI_length]; omega), grid_On_eq r c l cu lo ins _ _ hn n0 n1, Option.bind_some, on_step]
    rw [uptoI_succ] at ih
    exact ih
theorem Span_eq (k : Nat) (r c : Int) (l : List S44) (cu : Int) (lo ins : Bool) (a b : Int) (hn : l.length ≤ 16383) (a0 : 0 ≤ a) (a1 : a < l.length) (b0 : 0 ≤ b) (b1 : b < l.length) (hk : l.length < k) : grid_Span.f k r c l cu lo ins a b = some (spanI l.length a b) := by
  unfold grid_Span.f
  obtain ⟨v0, v1, _⟩ := spanN_val l.length a b a0 a1 b0 b1
  rw [grid_On_eq r c l cu lo ins _ _ hn a0 a1, Option.bind_some]
  have h := Span_loop r c l cu lo ins a b hn a0 a1 b0 b1 (spanN l.length a b - 1) k 1 (by omega) (by omega) (by omega)
  have e : uptoI (fun j : Nat => onI l.length a (j : Int)) 1 = [a] := by
    show [onI l.length a ((0 : Nat) : Int)] = [a]
    rw [on_zero _ _ a0 a1]
  rw [e] at h
  exact h
/-- the first open cell from one on -/
def lineI (l : List S44) (s : Int) : Int := if findW (openI l) (fun j => onI l.length s j) l.length 0 < 0 then 0 else findW (openI l) (fun j => onI l.length s j) l.length 0
theorem rd_upto (f : Nat → Int) (k i : Nat) (h : i < k) : rd (uptoI f k) i = f i := by
  unfold rd uptoI
  rw [Int.toNat_natCast, List.getD_eq_getElem?_getD, List.getElem?_map, List.getElem?_range h]; rfl
theorem line_loop (r c : Int) (l : List S44) (cu : Int) (lo ins : Bool) (s : Int) (hn : l.length ≤ 16383) : ∀ (d K i : Nat), d + i = l.length → d < K →
    move_line.l0 K (uptoI (fun j => onI l.length s j) l.length) l.length i r c l cu lo ins = some (if findW (openI l) (fun j => onI l.length s j) d i < 0 then 0 else findW (openI l) (fun j => onI l.length s j) d i)
  | 0, K, i, hd, hK => by
    obtain ⟨K, rfl⟩ : ∃ z, K = z + 1 := ⟨K - 1, by omega⟩
    rw [move_line.l0, if_neg (by omega)]; rfl
  | d + 1, K, i, hd, hK => by
    obtain ⟨K, rfl⟩ : ∃ z, K = z + 1 := ⟨K - 1, by omega⟩
    have ih := line_loop r c l cu lo ins s hn d K (i + 1) (by omega) (by omega)
    have n0 := onI_nonneg (n := l.length) (by omega) s (i : Int)
    have n1 := onI_lt (n := l.length) (by omega) s (i : Int)
    rw [move_line.l0, if_pos (by omega), if_pos (by omega), if_pos (by rw [uptoI_length]; omega), rd_upto _ _ _ (by omega), fOpen_eq r c l cu lo ins _ hn n0 n1, Option.bind_some, findW]
    by_cases h : openI l (onI l.length s (i : Int)) = true
    · rw [if_pos h, if_pos h, if_neg (by omega)]
    · rw [if_neg h, if_neg h, w64 (by omega), show (i : Int) + 1 = ((i + 1 : Nat) : Int) by omega]; exact ih
theorem rline_loop (r c : Int) (l : List S44) (cu : Int) (lo ins : Bool) (s : Int) (hn : l.length ≤ 16383) (s0 : 0 ≤ s) (s1 : s < l.length) : ∀ (d K i : Nat), d + i = l.length → d + l.length + 3 < K →
    shutterref15_To.l0 K l.length s i r c l cu lo ins = some (if findW (openI l) (fun j => onI l.length s j) d i < 0 then 0 else findW (openI l) (fun j => onI l.length s j) d i)
  | 0, K, i, hd, hK => by
    obtain ⟨K, rfl⟩ : ∃ z, K = z + 1 := ⟨K - 1, by omega⟩
    rw [shutterref15_To.l0, if_neg (by omega)]; rfl
  | d + 1, K, i, hd, hK => by
    obtain ⟨K, rfl⟩ : ∃ z, K = z + 1 := ⟨K - 1, by omega⟩
    have ih := rline_loop r c l cu lo ins s hn s0 s1 d K (i + 1) (by omega) (by omega)
    have n0 := onI_nonneg (n := l.length) (by omega) s (i : Int)
    have n1 := onI_lt (n := l.length) (by omega) s (i : Int)
    have e : Int.tmod (wrap64 (s + i)) (l.length : Int) = onI l.length s i := by rw [w64 (by omega), Int.tmod_eq_emod_of_nonneg (by omega)]; rfl
    rw [shutterref15_To.l0, if_pos (by omega), if_neg (by omega), e, rOpen_eq K r c l cu lo ins _ hn n0 n1 (by omega), Option.bind_some, findW]
    by_cases h : openI l (onI l.length s (i : Int)) = true
    · rw [if_pos h, if_pos h, if_neg (by omega)]
    · rw [if_neg h, if_neg h, w64 (by omega), show (i : Int) + 1 = ((i + 1 : Nat) : Int) by omega]; exact ih
def zeroI (x : Int) : Int := if x < 0 then 0 else x
theorem zero_mx (x : Int) : mx 0 x = zeroI x := by unfold zeroI mx; split <;> split <;> omega
theorem rzero_eq (x : Int) : shutterref15_zero.f x = some (zeroI x) := by unfold shutterref15_zero.f zeroI; split <;> rfl
/-- where a move leads -/
def toI (c : Int) (l : List S44) (cu kind : Int) : Int :=
  if kind = 2 then onI l.length cu (-1) else if kind = 3 then onI l.length cu 1 else if kind = 4 then onI l.length cu (-c) else if kind = 5 then onI l.length cu c
  else if kind = 6 then zeroI (nextI l cu) else if kind = 7 then zeroI (prevI l cu) else if kind = 8 then zeroI (nextI l ((l.length : Int) - 1)) else lineI l (onI l.length (cu - cu % c) c)
theorem col_parts {r c : Int} {l : List S44} {cu : Int} (h : RightI r c l cu) : cu % c = cu - c * (cu / c) ∧ 0 ≤ cu % c ∧ cu % c < c ∧ 0 ≤ cu / c ∧ cu / c < r ∧ c * (cu / c) ≤ cu := by
  have h1 := Int.emod_def cu c
  have h2 := Int.emod_nonneg cu (b := c) (by have := h.c1; omega)
  have h3 := Int.emod_lt_of_pos cu (b := c) (by have := h.c1; omega)
  have h4 := Int.ediv_nonneg h.cu0 (b := c) (by have := h.c1; omega)
  refine ⟨h1, h2, h3, h4, ?_, by omega⟩
  apply Int.ediv_lt_of_lt_mul (by have := h.c1; omega)
  rw [← h.len]; exact h.cu1
theorem line_start {r c : Int} {l : List S44} {cu : Int} (h : RightI r c l cu) : onI l.length (cu - cu % c) c = (cu / c + 1) % r * c := by
  obtain ⟨h1, h2, h3, h4, h5, h6⟩ := col_parts h
  unfold onI
  rw [show cu - cu % c + c = (cu / c + 1) * c by rw [h1, Int.add_mul, Int.one_mul, Int.mul_comm (cu / c) c]; omega, h.len]
  rw [Int.mul_comm (cu / c + 1) c, Int.mul_comm r c, Int.mul_emod_mul_of_pos _ _ (by have := h.c1; omega), Int.mul_comm]
theorem fTo_eq (k : Nat) (r c : Int) (l : List S44) (cu : Int) (lo ins : Bool) (kind : Int) (h : RightI r c l cu) (hk : l.length + 3 < k) : move_to.f k r c l cu lo ins kind = some (toI c l cu kind) := by
  have hn : l.length ≤ 16383 := by have := h.len; have := h.rc; omega
  have c0 := h.cu0
  have c1 := h.cu1
  unfold move_to.f toI
  by_cases h4 : kind = 4
  · rw [if_pos h4, if_neg (by omega), if_neg (by omega), if_pos h4, grid_On_eq r c l cu lo ins _ _ hn c0 c1, Option.bind_some, w64 (by have := h.c1; have := h.c2; omega)]
  rw [if_neg h4]
  by_cases h2 : kind = 2
  · rw [if_pos h2, if_pos h2, grid_On_eq r c l cu lo ins _ _ hn c0 c1, Option.bind_some]
  rw [if_neg h2, if_neg h2]
  by_cases h5 : kind = 5
  · rw [if_pos h5, if_neg (by omega), if_neg h4, if_pos h5, grid_On_eq r c l cu lo ins _ _ hn c0 c1, Option.bind_some]
  rw [if_neg h5]
  by_cases h3 : kind = 3
  · rw [if_pos h3, if_pos h3, grid_On_eq r c l cu lo ins _ _ hn c0 c1, Option.bind_some]
  rw [if_neg h3, if_neg h3, if_neg h4, if_neg h5]
  by_cases h7 : kind = 7
  · rw [if_pos h7, if_neg (by omega), if_pos h7, fPrev_eq r c l cu lo ins _ hn c0 c1, Option.bind_some, zero_mx]
  rw [if_neg h7]
  by_cases h6 : kind = 6
  · rw [if_pos h6, if_pos h6, fNext_eq r c l cu lo ins _ hn c0 c1, Option.bind_some, zero_mx]
  rw [if_neg h6, if_neg h6, if_neg h7]
  by_cases h8 : kind = 8
  · rw [if_pos h8, if_pos h8, w64 (by omega), fNext_eq r c l cu lo ins _ hn (by omega) (by omega), Option.bind_some, zero_mx]
  rw [if_neg h8, if_neg h8]
  unfold move_line.f
  obtain ⟨p1, p2, p3, p4, p5, p6⟩ := col_parts h
  have p7 : 0 ≤ c * (cu / c) := Int.mul_nonneg (by have := h.c1; omega) p4
  have n0 := onI_nonneg (n := l.length) (by omega) (cu - cu % c) c
  have n1 := onI_lt (n := l.length) (by omega) (cu - cu % c) c
  rw [if_neg (by have := h.c1; omega), Int.tmod_eq_emod_of_nonneg c0, w64 (by omega), grid_On_eq r c l cu lo ins _ _ hn (by omega) (by omega), Option.bind_some, Span_eq k r c l cu lo ins _ _ hn n0 n1 n0 n1 (by omega), Option.bind_some]
  have e : spanI l.length (onI l.length (cu - cu % c) c) (onI l.length (cu - cu % c) c) = uptoI (fun j => onI l.length (onI l.length (cu - cu % c) c) j) l.length := by unfold spanI spanN; rw [if_pos rfl]
  rw [e, uptoI_length]
  have := line_loop r c l cu lo ins (onI l.length (cu - cu % c) c) hn l.length k 0 (by omega) (by omega)
  rw [show ((0 : Nat) : Int) = 0 from rfl] at this
  rw [this, Option.bind_some]; rfl
theorem rTo_eq (k : Nat) (r c : Int) (l : List S44) (cu : Int) (lo ins : Bool) (kind : Int) (h : RightI r c l cu) (hk : l.length + l.length + 3 < k) : shutterref15_To.f k r c l cu lo ins kind = some (toI c l cu kind) := by
  have hn : l.length ≤ 16383 := by have := h.len; have := h.rc; omega
  have c0 := h.cu0
  have c1 := h.cu1
  have g1 := h.c1
  have g2 := h.c2
  have g3 : c ≤ l.length := by
    rw [h.len]
    have := Int.mul_le_mul_of_nonneg_right h.r1 (show (0 : Int) ≤ c by omega)
    omega
  have tm : ∀ x y : Int, 0 ≤ x → x ≤ 100000 → (x = y + l.length ∨ x = y) → Int.tmod (wrap64 x) (l.length : Int) = y % (l.length : Int) := by
    intro x y x0 x1 hh
    rw [w64 (by omega), Int.tmod_eq_emod_of_nonneg x0]
    rcases hh with hh | hh
    · rw [hh]; exact Int.add_emod_right ..
    · rw [hh]
  unfold shutterref15_To.f toI
  by_cases h2 : kind = 2
  · rw [if_pos h2, if_pos h2, if_neg (by omega), w64 (x := cu + _) (by omega), tm _ (cu + -1) (by omega) (by omega) (by omega)]; rfl
  rw [if_neg h2, if_neg h2]
  by_cases h3 : kind = 3
  · rw [if_pos h3, if_pos h3, if_neg (by omega), tm _ (cu + 1) (by omega) (by omega) (by omega)]; rfl
  rw [if_neg h3, if_neg h3]
  by_cases h4 : kind = 4
  · rw [if_pos h4, if_pos h4, if_neg (by omega), w64 (x := cu + _) (by omega), tm _ (cu + -c) (by omega) (by omega) (by omega)]; rfl
  rw [if_neg h4, if_neg h4]
  by_cases h5 : kind = 5
  · rw [if_pos h5, if_pos h5, if_neg (by omega), tm _ (cu + c) (by omega) (by omega) (by omega)]; rfl
  rw [if_neg h5, if_neg h5]
  by_cases h6 : kind = 6
  · rw [if_pos h6, if_pos h6, rNext_eq k r c l cu lo ins _ hn c0 c1 (by omega), Option.bind_some, rzero_eq]; rfl
  rw [if_neg h6, if_neg h6]
  by_cases h7 : kind = 7
  · rw [if_pos h7, if_pos h7, rPrev_eq k r c l cu lo ins _ hn c0 c1 (by omega), Option.bind_some, rzero_eq]; rfl
  rw [if_neg h7, if_neg h7]
  by_cases h8 : kind = 8
  · rw [if_pos h8, if_pos h8, w64 (by omega), rNext_eq k r c l cu lo ins _ hn (by omega) (by omega) (by omega), Option.bind_some, rzero_eq]; rfl
  rw [if_neg h8, if_neg h8, if_neg (by omega), if_neg (by have := h.r1; omega)]
  obtain ⟨p1, p2, p3, p4, p5, p6⟩ := col_parts h
  have n0 := onI_nonneg (n := l.length) (by omega) (cu - cu % c) c
  have n1 := onI_lt (n := l.length) (by omega) (cu - cu % c) c
  have r1 := h.r1
  have r2 := h.r2
  have ls := line_start h
  rw [Int.tdiv_eq_ediv_of_nonneg c0, w64 (x := cu / c) (by omega), w64 (x := cu / c + 1) (by omega), Int.tmod_eq_emod_of_nonneg (by omega), ← ls, w64 (by omega)]
  have := rline_loop r c l cu lo ins (onI l.length (cu - cu % c) c) hn n0 n1 l.length k 0 (by omega) (by omega)
  rw [show ((0 : Nat) : Int) = 0 from rfl] at this
  rw [this]; rfl
/-! the move itself -/
def errI (lo : Bool) (kind : Int) : Option Int := if kind < 2 ∨ 9 < kind then some 1 else if lo = true then some 7 else none
def curI (c : Int) (l : List S44) (cu : Int) (lo : Bool) (kind : Int) : Int := if (errI lo kind).isNone = true then toI c l cu kind else cu
theorem fDo_eq (k : Nat) (r c : Int) (l : List S44) (cu : Int) (lo ins : Bool) (kind : Int) (h : RightI r c l cu) (hk : l.length + 3 < k) : move_Do.f k r c l cu lo ins kind = some (r, c, l, curI c l cu lo kind, lo, ins, errI lo kind) := by
  have hn : l.length ≤ 16383 := by have := h.len; have := h.rc; omega
  unfold move_Do.f move_Moves.f curI errI
  by_cases h2 : kind < 2 ∨ 9 < kind
  · rw [if_pos h2]
    by_cases h3 : kind ≥ 2
    · rw [if_pos h3, Option.bind_some, if_neg (by simpa using (show 9 < kind by omega))]; rfl
    · rw [if_neg h3, Option.bind_some, if_neg (by decide)]; rfl
  · rw [if_neg h2, if_pos (by omega), Option.bind_some, if_pos (by simpa using (show kind ≤ 9 by omega))]
    cases lo with
    | true => rfl
    | false => rw [if_neg (by decide), grid_Copy_eq r c l cu false ins hn, Option.bind_some]; simp only; rw [fTo_eq k r c l cu false ins kind h hk]; rfl
theorem rDo_eq (k : Nat) (r c : Int) (l : List S44) (cu : Int) (lo ins : Bool) (kind : Int) (h : RightI r c l cu) (hk : l.length + l.length + 4 < k) : shutterref15_Do.f k r c l cu lo ins kind = some (r, c, l, curI c l cu lo kind, lo, ins, (errI lo kind).getD 0) := by
  have hn : l.length ≤ 16383 := by have := h.len; have := h.rc; omega
  obtain ⟨k, rfl⟩ : ∃ z, k = z + 1 := ⟨k - 1, by omega⟩
  have hj : ∀ b, shutterref15_Do.j0 (k + 1) kind b r c l cu lo ins = if b = true then some (r, c, l, cu, lo, ins, 1) else if lo = true then some (r, c, l, cu, lo, ins, 7) else some (r, c, l, toI c l cu kind, lo, ins, 0) := by
    intro b
    rw [shutterref15_Do.j0, rCopy_eq r c l cu lo ins hn, Option.bind_some, rTo_eq k r c l cu lo ins kind h (by omega), Option.bind_some]
  unfold shutterref15_Do.f
  rw [hj, hj]
  have hcur : ∀ e, errI lo kind = some e → curI c l cu lo kind = cu := fun e he => by unfold curI; rw [he]; rfl
  by_cases h2 : kind < 2
  · have he : errI lo kind = some 1 := by unfold errI; rw [if_pos (.inl h2)]
    rw [if_pos h2, if_pos rfl, he, hcur _ he]; rfl
  · rw [if_neg h2]
    by_cases h3 : kind > 9
    · have he : errI lo kind = some 1 := by unfold errI; rw [if_pos (.inr h3)]
      rw [decide_eq_true h3, if_pos rfl, he, hcur _ he]; rfl
    · have he : errI lo kind = if lo = true then some 7 else none := by unfold errI; rw [if_neg (by omega)]
      rw [decide_eq_false h3, if_neg (by decide)]
      cases lo with
      | true => rw [if_pos rfl, he, hcur 7 (by rw [he]; rfl)]; rfl
      | false =>
        have hc : curI c l cu false kind = toI c l cu kind := by unfold curI; rw [he]; rfl
        rw [if_neg (by decide), he, hc]; rfl
theorem toI_range {r c : Int} {l : List S44} {cu : Int} (h : RightI r c l cu) (kind : Int) : 0 ≤ toI c l cu kind ∧ toI c l cu kind < l.length := by
  have hp : 0 < l.length := by have := h.cu0; have := h.cu1; omega
  have hon := fun a d => And.intro (onI_nonneg hp a d) (onI_lt hp a d)
  have hz : ∀ x : Int, (x = -1 ∨ (0 ≤ x ∧ x < l.length)) → 0 ≤ zeroI x ∧ zeroI x < l.length := by intro x hx; unfold zeroI; split <;> omega
  have hnx : ∀ a, nextI l a = -1 ∨ (0 ≤ nextI l a ∧ nextI l a < l.length) := fun a => by
    by_cases e : nextI l a = -1
    · exact .inl e
    · obtain ⟨f, _, _, _, ef⟩ := next_ent l a hp e; rw [ef]; exact .inr (hon _ _)
  have hpx : ∀ a, prevI l a = -1 ∨ (0 ≤ prevI l a ∧ prevI l a < l.length) := fun a => by
    by_cases e : prevI l a = -1
    · exact .inl e
    · obtain ⟨f, _, _, _, ef⟩ := prev_ent l a hp e; rw [ef]; exact .inr (hon _ _)
  unfold toI
  repeat' split
  · exact hon _ _
  · exact hon _ _
  · exact hon _ _
  · exact hon _ _
  · exact hz _ (hnx _)
  · exact hz _ (hpx _)
  · exact hz _ (hnx _)
  · unfold lineI
    rcases findW_cases (openI l) (fun j => onI l.length (onI l.length (cu - cu % c) c) j) l.length 0 with ⟨e, _⟩ | ⟨j, _, _, _, _, e⟩
    · rw [e, if_pos (by decide)]; omega
    · have := hon (onI l.length (cu - cu % c) c) j
      rw [e, if_neg (by omega)]; exact this
end Go.Proofs.YtapcfcagjlmgjaaDoor.P
