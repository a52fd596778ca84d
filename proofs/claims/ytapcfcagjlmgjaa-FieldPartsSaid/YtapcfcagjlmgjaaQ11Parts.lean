/-
FieldParts over plain lists. No Go in it.
-/
import Derived.Test.YtapcfcagjlmgjaaQ11w
import Derived.Test.YtapcfcagjlmgjaaM3
import Derived.Test.YtapcfcagjlmgjaaM4
import Derived.Test.YtapcfcagjlmgjaaO0
import Derived.Test.YtapcfcagjlmgjaaPx11
namespace Go.Proofs.Ytapcfcagjlmgjaa.P
open Go.RowKit Go.Proofs.YtapcfcagjlmgjaaW.PrintWords Go.Proofs.YtapcfcagjlmgjaaW.PrintLast
set_option linter.unusedVariables false
set_option linter.unusedSimpArgs false

theorem emod_over (x : Int) (n : Nat) (h0 : (n : Int) ≤ x) (h1 : x < 2 * n) : x % (n : Int) = x - n := by
  have h : (x - n) % (n : Int) = x % (n : Int) := by rw [Int.sub_emod, Int.emod_self, Int.sub_zero, Int.emod_emod_of_dvd _ (Int.dvd_refl _)]
  rw [← h]; exact Int.emod_eq_of_lt (by omega) (by omega)
theorem emod_under (x : Int) (n : Nat) (h0 : -(n : Int) ≤ x) (h1 : x < 0) : x % (n : Int) = x + n := by
  have h : (x + n - n) % (n : Int) = (x + n) % (n : Int) := by rw [Int.sub_emod, Int.emod_self, Int.sub_zero, Int.emod_emod_of_dvd _ (Int.dvd_refl _)]
  rw [show x + n - n = x by omega] at h
  rw [h]; exact Int.emod_eq_of_lt (by omega) (by omega)
theorem way_val (n : Nat) (b : Int) (i : Nat) (b0 : 0 ≤ b) (b1 : b < n) (hi : i < n) : wayI n b 1 i = if b + 1 + i < n then b + 1 + i else b + 1 + i - n := by
  have e : wayI n b 1 i = (b + 1 + i) % (n : Int) := by unfold wayI sgnI; rw [if_neg (by omega), Int.one_mul]
  rw [e]
  by_cases h : b + 1 + i < n
  · rw [if_pos h]; exact Int.emod_eq_of_lt (by omega) h
  · rw [if_neg h]; exact emod_over _ _ (by omega) (by omega)
theorem back_val (n : Nat) (x : Int) (j : Nat) (x0 : 0 ≤ x) (x1 : x < n) (hj : j < n) : (x - j) % (n : Int) = if (j : Int) ≤ x then x - j else x - j + n := by
  by_cases h : (j : Int) ≤ x
  · rw [if_pos h]; exact Int.emod_eq_of_lt (by omega) (by omega)
  · rw [if_neg h]; exact emod_under _ _ (by omega) (by omega)

theorem takeW_way (p : Int → Bool) (g : Nat → Int) : ∀ c s, ∃ k, k ≤ c ∧ takeW p g c s = uptoI (fun j => g (s + j)) k ∧ (∀ i, i < k → p (g (s + i)) = false) ∧ (k = c ∨ p (g (s + k)) = true)
  | 0, s => ⟨0, Nat.le_refl _, rfl, fun i h => by omega, .inl rfl⟩
  | c + 1, s => by
    by_cases h : p (g s) = true
    · exact ⟨0, by omega, by rw [takeW, if_pos h]; rfl, fun i hi => by omega, .inr h⟩
    · obtain ⟨k, h1, h2, h3, h4⟩ := takeW_way p g c (s + 1)
      refine ⟨k + 1, by omega, ?_, fun i hi => ?_, ?_⟩
      · rw [takeW, if_neg h, h2, uptoI_front]; simp only [Nat.add_zero]; congr 1; congr 1; funext j; rw [show s + 1 + j = s + (j + 1) by omega]
      · rcases i with _ | i
        · simpa using h
        · have := h3 i (by omega); rw [show s + (i + 1) = s + 1 + i by omega]; exact this
      · rcases h4 with h4 | h4
        · left; omega
        · right; rw [show s + (k + 1) = s + 1 + k by omega]; exact h4

/-- the cells behind a cell with a field, up to the next one -/
theorem cells_parts (l : List S39) (b : Int) (b0 : 0 ≤ b) (b1 : b < l.length) (hF : isF l b = true) :
    ∃ k, k < l.length ∧ cellsI l b = uptoI (wayI l.length b 1) k ∧ (∀ i, i < k → isF l (wayI l.length b 1 i) = false) ∧ isF l (wayI l.length b 1 k) = true := by
  obtain ⟨k, h1, h2, h3, h4⟩ := takeW_way (isF l) (wayI l.length b 1) l.length 0
  simp only [Nat.zero_add] at h2 h3 h4
  have hlast : wayI l.length b 1 (l.length - 1) = b := by
    rw [way_val _ _ _ b0 b1 (by omega)]; split <;> omega
  have hk : k ≠ l.length := fun e => by
    have := h3 (l.length - 1) (by omega)
    rw [hlast, hF] at this; cases this
  refine ⟨k, by omega, ?_, h3, ?_⟩
  · unfold cellsI
    rw [begin_here l b b0 b1 hF, if_neg (by omega)]; exact h2
  · rcases h4 with h4 | h4
    · exact absurd h4 hk
    · exact h4
theorem begin_at (l : List S39) (x : Int) (j : Nat) (hj : j < l.length) (h : isF l ((x - j) % (l.length : Int)) = true) (h' : ∀ i : Nat, i < j → isF l ((x - i) % (l.length : Int)) = false) : beginI l x = (x - j) % (l.length : Int) :=
  findW_eq (isF l) (fun j => (x - j) % (l.length : Int)) l.length 0 j (by omega) (by omega) h (fun i _ hi => h' i hi)
theorem parts_in (l : List S39) (b : Int) (b0 : 0 ≤ b) (b1 : b < l.length) (hF : isF l b = true) (k : Nat) (hk : k < l.length) (hn : ∀ i, i < k → isF l (wayI l.length b 1 i) = false) (i : Nat) (hi : i < k) : beginI l (wayI l.length b 1 i) = b := by
  have v := way_val l.length b i b0 b1 (by omega)
  have w0 : 0 ≤ wayI l.length b 1 i ∧ wayI l.length b 1 i < l.length := by rw [v]; split <;> omega
  have e : (wayI l.length b 1 i - ((i + 1 : Nat) : Int)) % (l.length : Int) = b := by
    rw [back_val _ _ _ w0.1 w0.2 (by omega), v]; split <;> split <;> omega
  have := begin_at l (wayI l.length b 1 i) (i + 1) (by omega) (by rw [e]; exact hF) (fun j hj => by
    have e' : (wayI l.length b 1 i - (j : Int)) % (l.length : Int) = wayI l.length b 1 (i - j) := by
      rw [back_val _ _ _ w0.1 w0.2 (by omega), v, way_val _ _ _ b0 b1 (by omega)]; split <;> split <;> split <;> omega
    rw [e']; exact hn _ (by omega))
  rw [this, e]
theorem parts_all (l : List S39) (b : Int) (b0 : 0 ≤ b) (b1 : b < l.length) (k : Nat) (hk : k < l.length) (hK : isF l (wayI l.length b 1 k) = true) (x : Int) (x0 : 0 ≤ x) (x1 : x < l.length) (hx : beginI l x = b) (ne : x ≠ b) : ∃ i, i < k ∧ wayI l.length b 1 i = x := by
  rcases findW_cases (isF l) (fun j => (x - j) % (l.length : Int)) l.length 0 with ⟨h, _⟩ | ⟨j, _, hj, hp, hall, h⟩
  · have : beginI l x = -1 := h
    omega
  · have e : (x - (j : Int)) % (l.length : Int) = b := (show beginI l x = _ from h).symm.trans hx
    have v := back_val l.length x j x0 x1 (by omega)
    rw [e] at v
    have hj0 : j ≠ 0 := fun z => by
      subst z; rw [if_pos (by omega)] at v; omega
    have e2 : wayI l.length b 1 (j - 1) = x := by
      rw [way_val _ _ _ b0 b1 (by omega)]; revert v; split <;> split <;> omega
    refine ⟨j - 1, ?_, e2⟩
    rcases Nat.lt_or_ge (j - 1) k with hh | hh
    · exact hh
    · exfalso
      have e3 : (x - ((j - 1 - k : Nat) : Int)) % (l.length : Int) = wayI l.length b 1 k := by
        rw [back_val _ _ _ x0 x1 (by omega), way_val _ _ _ b0 b1 hk]; revert v; split <;> split <;> split <;> omega
      have h5 : isF l ((x - ((j - 1 - k : Nat) : Int)) % (l.length : Int)) = false := hall (j - 1 - k) (by omega) (by omega)
      rw [e3, hK] at h5; cases h5

/-! which cells were met: 1, else 0 -/
def seenL (q : Int → Bool) (n : Nat) : List Int := (List.range n).map fun (x : Nat) => if q (x : Int) = true then 1 else 0
theorem seenL_length (q : Int → Bool) (n : Nat) : (seenL q n).length = n := by simp [seenL]
theorem rd_seen (q : Int → Bool) (n : Nat) (y : Int) (y0 : 0 ≤ y) (y1 : y < n) : rd (seenL q n) y = if q y = true then 1 else 0 := by
  obtain ⟨m, rfl⟩ : ∃ m : Nat, y = m := ⟨y.toNat, by omega⟩
  have hm : m < n := by omega
  unfold rd seenL
  rw [Int.toNat_natCast, List.getD_eq_getElem?_getD, List.getElem?_map, List.getElem?_range hm]; rfl
theorem set_seen (q q' : Int → Bool) (n : Nat) (y : Int) (y0 : 0 ≤ y) (y1 : y < n) (hq : q y = false) (h : ∀ x : Int, 0 ≤ x → x < n → q' x = (q x || x == y)) : (seenL q n).set (y : Int).toNat (wrap64 (rd (seenL q n) y + 1)) = seenL q' n := by
  obtain ⟨m, rfl⟩ : ∃ m : Nat, y = m := ⟨y.toNat, by omega⟩
  rw [rd_seen q n m y0 y1, hq, if_neg (by decide), show wrap64 (0 + 1) = 1 from w64 (by omega), Int.toNat_natCast]
  apply List.ext_getElem?
  intro i
  unfold seenL
  rw [List.getElem?_set, List.length_map, List.length_range, List.getElem?_map, List.getElem?_map]
  rcases Nat.lt_or_ge i n with hi | hi
  · rw [List.getElem?_range hi]
    simp only [Option.map_some]
    rw [h i (by omega) (by omega)]
    by_cases e : m = i
    · subst e; rw [if_pos rfl, if_pos (by omega)]; simp
    · rw [if_neg e]
      have : ((i : Int) == (m : Int)) = false := by simp; omega
      rw [this, Bool.or_false]
  · rw [List.getElem?_eq_none (by simpa using hi)]
    rw [if_neg (by omega)]; rfl
theorem seenL_congr (q q' : Int → Bool) (n : Nat) (h : ∀ x : Int, 0 ≤ x → x < n → q x = q' x) : seenL q n = seenL q' n := by
  unfold seenL
  apply List.map_congr_left
  intro x hx
  rw [h x (by omega) (by have := List.mem_range.1 hx; omega)]
theorem seenL_zero (n : Nat) (q : Int → Bool) (h : ∀ x, q x = false) : List.replicate n (0 : Int) = seenL q n := by
  unfold seenL
  apply List.ext_getElem?
  intro i
  rw [List.getElem?_replicate, List.getElem?_map]
  rcases Nat.lt_or_ge i n with hi | hi
  · rw [List.getElem?_range hi, if_pos hi, Option.map_some, h, if_neg (by decide)]
  · rw [List.getElem?_eq_none (by simpa using hi), if_neg (by omega)]; rfl

/-! the cells with a field, in order -/
theorem beginsFrom_mem (l : List S39) : ∀ d i y, y ∈ beginsFrom l d i ↔ ∃ x : Nat, y = x ∧ i ≤ x ∧ x < i + d ∧ isF l x = true
  | 0, i, y => by simp [beginsFrom]; intro x _ h1 h2; omega
  | d + 1, i, y => by
    have ih := beginsFrom_mem l d (i + 1) y
    rw [beginsFrom]
    by_cases h : isF l i = true
    · rw [if_pos h, List.mem_cons, ih]
      constructor
      · rintro (rfl | ⟨x, rfl, h1, h2, h3⟩)
        · exact ⟨i, rfl, by omega, by omega, h⟩
        · exact ⟨x, rfl, by omega, by omega, h3⟩
      · rintro ⟨x, rfl, h1, h2, h3⟩
        by_cases e : x = i
        · left; rw [e]
        · right; exact ⟨x, rfl, by omega, by omega, h3⟩
    · rw [if_neg h, ih]
      constructor
      · rintro ⟨x, rfl, h1, h2, h3⟩; exact ⟨x, rfl, by omega, by omega, h3⟩
      · rintro ⟨x, rfl, h1, h2, h3⟩
        refine ⟨x, rfl, ?_, by omega, h3⟩
        rcases Nat.lt_or_ge i x with hh | hh
        · omega
        · obtain rfl : x = i := by omega
          exact absurd h3 h
theorem beginsFrom_sorted (l : List S39) : ∀ d i, (beginsFrom l d i).Pairwise (· < ·)
  | 0, i => by simp [beginsFrom]
  | d + 1, i => by
    rw [beginsFrom]
    split
    · refine List.Pairwise.cons (fun y hy => ?_) (beginsFrom_sorted l d (i + 1))
      obtain ⟨x, rfl, h1, _⟩ := (beginsFrom_mem l d (i + 1) y).1 hy
      omega
    · exact beginsFrom_sorted l d (i + 1)
theorem begins_mem (l : List S39) (y : Int) : y ∈ beginsI l ↔ 0 ≤ y ∧ y < l.length ∧ isF l y = true := by
  unfold beginsI
  rw [beginsFrom_mem]
  constructor
  · rintro ⟨x, rfl, _, h2, h3⟩; exact ⟨by omega, by omega, h3⟩
  · rintro ⟨h1, h2, h3⟩
    obtain ⟨x, rfl⟩ : ∃ x : Nat, y = x := ⟨y.toNat, by omega⟩
    exact ⟨x, rfl, by omega, by omega, h3⟩
theorem rd_get (B : List Int) (m : Nat) (h : m < B.length) : rd B (m : Int) = B[m] := by
  unfold rd; rw [Int.toNat_natCast, List.getD_eq_getElem?_getD, List.getElem?_eq_getElem h]; rfl
/-- met, when m fields are done -/
def metQ (l : List S39) (m : Nat) (x : Int) : Bool := ((beginsI l).take m).contains (beginI l x)
/-- met, when i cells more of b's field are done -/
def metR (l : List S39) (m : Nat) (b : Int) (i : Nat) (x : Int) : Bool := metQ l m x || x == b || (List.range i).any fun j => wayI l.length b 1 j == x

theorem parts_l1 (r c : Int) (l : List S39) (cu : Int) (lo ins : Bool) (hn : l.length ≤ 16383) (m : Nat) (hm : m < (beginsI l).length) (b : Int) (hb : rd (beginsI l) m = b) (b0 : 0 ≤ b) (b1 : b < l.length) (hF : isF l b = true)
    (hq : ∀ x, beginI l x = b → metQ l m x = false) (k : Nat) (hk : k < l.length) (hc : cellsI l b = uptoI (wayI l.length b 1) k) (hN : ∀ i, i < k → isF l (wayI l.length b 1 i) = false) : ∀ (d i K : Nat), d + i = k →
    shutterlaw11_FieldParts.l1 (K + d + 1) (beginsI l) (seenL (metR l m b i) l.length) m (cellsI l b) i r c l cu lo ins = shutterlaw11_FieldParts.l0 K (beginsI l) (seenL (metR l m b k) l.length) (wrap64 ((m : Int) + 1)) r c l cu lo ins
  | 0, i, K, hd => by
    obtain rfl : i = k := by omega
    rw [shutterlaw11_FieldParts.l1, if_neg (by rw [hc, uptoI_length]; omega)]
  | d + 1, i, K, hd => by
    have ih := parts_l1 r c l cu lo ins hn m hm b hb b0 b1 hF hq k hk hc hN d (i + 1) K (by omega)
    have hi : i < k := by omega
    have hy : rd (cellsI l b) i = wayI l.length b 1 i := by
      rw [rd_get _ i (by rw [hc, uptoI_length]; omega)]
      simp only [hc, uptoI, List.getElem_map, List.getElem_range]
    have v := way_val l.length b i b0 b1 (by omega)
    have w0 : 0 ≤ wayI l.length b 1 i ∧ wayI l.length b 1 i < l.length := by rw [v]; split <;> omega
    have hB := parts_in l b b0 b1 hF k hk hN i hi
    have hO : ofI l (wayI l.length b 1 i) = (rd_T39 l b).f1 := by unfold ofI; rw [hB, if_neg (by omega)]
    rw [show K + (d + 1) + 1 = (K + d + 1) + 1 by omega, shutterlaw11_FieldParts.l1, if_pos (by rw [hc, uptoI_length]; omega), if_pos (by omega), hy, if_pos w0.1, if_pos (by rw [seenL_length]; exact w0.2),
      fBegin_eq r c l cu lo ins _ hn w0.1 w0.2, Option.bind_some, if_pos (by omega), if_pos (by omega), hB, hb, if_pos rfl, fOf_eq r c l cu lo ins _ hn w0.1 w0.2, Option.bind_some, if_pos b0, if_pos b1, hO]
    rw [if_neg (by simp), fOpen_eq r c l cu lo ins _ hn w0.1 w0.2, Option.bind_some]
    rw [if_neg (by unfold openI; rw [hO, hN i hi]; cases (rd_T39 l b).f1.f0 <;> simp)]
    have hs := set_seen (metR l m b i) (metR l m b (i + 1)) l.length (wayI l.length b 1 i) w0.1 w0.2 (by
      unfold metR
      rw [hq _ hB, Bool.false_or, Bool.or_eq_false_iff]
      constructor
      · have : wayI l.length b 1 i ≠ b := fun e => by have := hN i hi; rw [e, hF] at this; cases this
        simpa using this
      · rw [List.any_eq_false]
        intro j hj
        have hj := List.mem_range.1 hj
        have v' := way_val l.length b j b0 b1 (by omega)
        have : wayI l.length b 1 j ≠ wayI l.length b 1 i := by rw [v, v']; split <;> split <;> omega
        simpa using this) (by
      intro x _ _
      unfold metR
      rw [List.range_succ, List.any_append]
      simp only [List.any_cons, List.any_nil, Bool.or_false]
      have hE : (wayI l.length b 1 i == x) = (x == wayI l.length b 1 i) := Bool.eq_iff_iff.2 (by rw [beq_iff_eq, beq_iff_eq]; exact eq_comm)
      rw [hE]
      exact (Bool.or_assoc _ _ _).symm)
    rw [hs, show wrap64 ((i : Int) + 1) = ((i + 1 : Nat) : Int) by rw [w64 (by omega)]; omega]
    exact ih

theorem met_step (l : List S39) (m : Nat) (hm : m < (beginsI l).length) (x : Int) : metQ l (m + 1) x = (metQ l m x || beginI l x == (beginsI l)[m]) := by
  unfold metQ
  rw [List.take_add_one, List.getElem?_eq_getElem hm]
  refine Bool.eq_iff_iff.2 ?_
  rw [List.contains_iff_mem, List.mem_append, Bool.or_eq_true, List.contains_iff_mem, beq_iff_eq, Option.toList_some, List.mem_singleton]
theorem met_not (l : List S39) (m : Nat) (hm : m < (beginsI l).length) (x : Int) (h : beginI l x = (beginsI l)[m]) : metQ l m x = false := by
  unfold metQ
  rw [h]
  have hs := List.pairwise_iff_getElem.1 (show (beginsI l).Pairwise (· < ·) from beginsFrom_sorted l l.length 0)
  cases hc : ((beginsI l).take m).contains (beginsI l)[m] with
  | false => rfl
  | true =>
    exfalso
    obtain ⟨j, hj, e⟩ := List.mem_take_iff_getElem.1 (List.contains_iff_mem.1 hc)
    have : (beginsI l)[j] < (beginsI l)[m] := hs j m (by omega) hm (by omega)
    omega
theorem parts_l2 (r c : Int) (l : List S39) (cu : Int) (lo ins : Bool) (hn : l.length ≤ 16383) (q : Int → Bool)
    (h : (formattedI l = true ∧ ∀ x : Int, 0 ≤ x → x < l.length → q x = true) ∨ (formattedI l = false ∧ ∀ x : Int, 0 ≤ x → x < l.length → q x = false ∧ openI l x = true)) : ∀ (d i K : Nat), d + i = l.length → d < K →
    shutterlaw11_FieldParts.l2 K (seenL q l.length) i r c l cu lo ins = some true
  | 0, i, K, hd, hK => by
    obtain ⟨K, rfl⟩ : ∃ m, K = m + 1 := ⟨K - 1, by omega⟩
    rw [shutterlaw11_FieldParts.l2, if_neg (by rw [seenL_length]; omega)]
  | d + 1, i, K, hd, hK => by
    obtain ⟨K, rfl⟩ : ∃ m, K = m + 1 := ⟨K - 1, by omega⟩
    have ih := parts_l2 r c l cu lo ins hn q h d (i + 1) K (by omega) (by omega)
    rw [shutterlaw11_FieldParts.l2, if_pos (by rw [seenL_length]; omega), fFormatted_eq r c l cu lo ins hn, Option.bind_some, rd_seen q l.length i (by omega) (by omega), w64 (by omega), show (i : Int) + 1 = ((i + 1 : Nat) : Int) by omega, ih]
    rcases h with ⟨hf, hq⟩ | ⟨hf, hq⟩
    · rw [hf, hq i (by omega) (by omega), if_pos rfl, if_pos (by omega), if_pos rfl, if_pos rfl, Option.bind_some, if_pos rfl]
    · obtain ⟨q0, o0⟩ := hq i (by omega) (by omega)
      rw [hf, q0, if_neg (by decide), Option.bind_some, if_neg (by decide), if_pos (by omega), if_neg (by decide : ¬ false = true), if_pos rfl, fOpen_eq r c l cu lo ins _ hn (by omega) (by omega), Option.bind_some, o0, if_pos rfl]
theorem begin_never (l : List S39) (x : Int) (x0 : 0 ≤ x) (x1 : x < l.length) (h : beginI l x = -1) (y : Int) (y0 : 0 ≤ y) (y1 : y < l.length) : isF l y = false := by
  rcases findW_cases (isF l) (fun j => (x - j) % (l.length : Int)) l.length 0 with ⟨_, ha⟩ | ⟨j, _, hj, _, _, e⟩
  · by_cases hh : y ≤ x
    · have h5 : isF l ((x - ((x - y).toNat : Int)) % (l.length : Int)) = false := ha (x - y).toNat (by omega) (by omega)
      rw [back_val _ _ _ x0 x1 (by omega), if_pos (by omega), show x - ((x - y).toNat : Int) = y by omega] at h5
      exact h5
    · have h5 : isF l ((x - ((x - y + l.length).toNat : Int)) % (l.length : Int)) = false := ha (x - y + l.length).toNat (by omega) (by omega)
      rw [back_val _ _ _ x0 x1 (by omega), if_neg (by omega), show x - ((x - y + l.length).toNat : Int) + l.length = y by omega] at h5
      exact h5
  · have e2 : beginI l x = (x - (j : Int)) % (l.length : Int) := e
    have := Int.emod_nonneg (x - (j : Int)) (b := (l.length : Int)) (by omega)
    omega
theorem formatted_iff (l : List S39) : formattedI l = true ↔ ∃ y : Int, 0 ≤ y ∧ y < l.length ∧ isF l y = true := by
  unfold formattedI
  rw [List.any_eq_true]
  constructor
  · rintro ⟨x, hx, hf⟩
    obtain ⟨j, hj, rfl⟩ := List.mem_iff_getElem.1 hx
    exact ⟨j, by omega, by omega, by unfold isF; rw [rd_getElem l j hj]; exact hf⟩
  · rintro ⟨y, y0, y1, hf⟩
    obtain ⟨j, rfl⟩ : ∃ j : Nat, y = j := ⟨y.toNat, by omega⟩
    have hj : j < l.length := by omega
    exact ⟨l[j], List.getElem_mem hj, by unfold isF at hf; rwa [rd_getElem l j hj] at hf⟩
theorem parts_end (l : List S39) : (formattedI l = true ∧ ∀ x : Int, 0 ≤ x → x < l.length → metQ l (beginsI l).length x = true) ∨ (formattedI l = false ∧ ∀ x : Int, 0 ≤ x → x < l.length → metQ l (beginsI l).length x = false ∧ openI l x = true) := by
  cases hf : formattedI l with
  | true =>
    left
    refine ⟨rfl, fun x x0 x1 => ?_⟩
    obtain ⟨y, y0, y1, hy⟩ := (formatted_iff l).1 hf
    unfold metQ
    rw [List.take_length, List.contains_iff_mem, begins_mem]
    rcases begin_range l x (by omega) with h | h
    · have := begin_never l x x0 x1 h y y0 y1
      rw [hy] at this; cases this
    · exact h
  | false =>
    right
    refine ⟨rfl, fun x x0 x1 => ?_⟩
    have hno : ∀ y : Int, 0 ≤ y → y < l.length → isF l y = false := fun y y0 y1 => by
      cases h : isF l y with
      | false => rfl
      | true => rw [(formatted_iff l).2 ⟨y, y0, y1, h⟩] at hf; cases hf
    have hb : beginI l x = -1 := by
      rcases begin_range l x (by omega) with h | ⟨h0, h1, h⟩
      · exact h
      · rw [hno _ h0 h1] at h; cases h
    constructor
    · unfold metQ
      rw [List.take_length, hb]
      cases hc : (beginsI l).contains (-1) with
      | false => rfl
      | true => have := (begins_mem l (-1)).1 (List.contains_iff_mem.1 hc); omega
    · unfold openI ofI
      rw [hno x x0 x1, hb, if_pos (by decide)]; rfl

theorem parts_l0 (r c : Int) (l : List S39) (cu : Int) (lo ins : Bool) (hn : l.length ≤ 16383) : ∀ (d m K : Nat), d + m = (beginsI l).length → d * (l.length + 5) + l.length + 5 ≤ K →
    shutterlaw11_FieldParts.l0 K (beginsI l) (seenL (metQ l m) l.length) m r c l cu lo ins = some true
  | 0, m, K, hd, hK => by
    obtain ⟨K, rfl⟩ : ∃ z, K = z + 1 := ⟨K - 1, by omega⟩
    obtain rfl : m = (beginsI l).length := by omega
    rw [shutterlaw11_FieldParts.l0, if_neg (by omega)]
    exact parts_l2 r c l cu lo ins hn _ (parts_end l) l.length 0 K (by omega) (by omega)
  | d + 1, m, K, hd, hK => by
    have hm : m < (beginsI l).length := by omega
    have hmul : (d + 1) * (l.length + 5) = d * (l.length + 5) + (l.length + 5) := by rw [Nat.add_mul, Nat.one_mul]
    obtain ⟨b, hb⟩ : ∃ b, (beginsI l)[m] = b := ⟨_, rfl⟩
    have hrd : rd (beginsI l) m = b := by rw [rd_get _ m hm, hb]
    obtain ⟨b0, b1, hF⟩ := (begins_mem l b).1 (by rw [← hb]; exact List.getElem_mem hm)
    obtain ⟨k, hk, hc, hN, hkF⟩ := cells_parts l b b0 b1 hF
    have hq : ∀ x, beginI l x = b → metQ l m x = false := fun x h => met_not l m hm x (by rw [hb]; exact h)
    have hbb := begin_here l b b0 b1 hF
    have hlen := begins_len l
    -- K = j1, l1's k+1, the rest
    obtain ⟨K', hK'⟩ : ∃ z, K = z + k + 3 := ⟨K - k - 3, by omega⟩
    subst hK'
    have hset := set_seen (metQ l m) (metR l m b 0) l.length b b0 b1 (hq b hbb) (fun x _ _ => by unfold metR; simp)
    have hloop := parts_l1 r c l cu lo ins hn m hm b hrd b0 b1 hF hq k hk hc hN k 0 K' (by omega)
    have hcong := seenL_congr (metR l m b k) (metQ l (m + 1)) l.length (fun x x0 x1 => by
      rw [met_step l m hm, hb]
      unfold metR
      rw [Bool.or_assoc]
      congr 1
      refine Bool.eq_iff_iff.2 ?_
      rw [Bool.or_eq_true, List.any_eq_true, beq_iff_eq, beq_iff_eq]
      constructor
      · rintro (rfl | ⟨j, hj, e⟩)
        · exact hbb
        · rw [beq_iff_eq] at e
          rw [← e]; exact parts_in l b b0 b1 hF k hk hN j (List.mem_range.1 hj)
      · intro h
        by_cases e : x = b
        · exact .inl e
        · obtain ⟨i, hi, e2⟩ := parts_all l b b0 b1 k hk hkF x x0 x1 h e
          exact .inr ⟨i, List.mem_range.2 hi, by rw [beq_iff_eq]; exact e2⟩)
    have ih := parts_l0 r c l cu lo ins hn d (m + 1) K' (by omega) (by omega)
    have hj1 : ∀ z, shutterlaw11_FieldParts.j1 (K' + k + 2) (beginsI l) (seenL (metQ l m) l.length) m z r c l cu lo ins = if z = true then none else some true := by
      intro z
      rw [show K' + k + 2 = (K' + k + 1) + 1 by omega, shutterlaw11_FieldParts.j1]
      cases z with
      | true => rfl
      | false =>
        refine Eq.trans (b := some true) ?_ rfl
        rw [if_neg (by decide), if_pos (by omega), if_pos (by omega), hrd, if_pos b0, if_pos (by rw [seenL_length]; exact b1), fCells_eq r c l cu lo ins _ hn b0 b1, Option.bind_some, hset]
        refine hloop.trans ?_
        rw [hcong, w64 (by omega), show (m : Int) + 1 = ((m + 1 : Nat) : Int) by omega]
        exact ih
    have hO : openI l b = false := by unfold openI; rw [hF]; rfl
    rw [show K' + k + 3 = (K' + k + 2) + 1 by omega, shutterlaw11_FieldParts.l0, if_pos (by omega), if_pos (by omega), hrd, if_pos b0, if_pos b1, if_pos (show (rd_T39 l b).f0 = true from hF)]
    by_cases h0 : (m : Int) > 0
    · have hp : rd (beginsI l) (wrap64 ((m : Int) - 1)) < b := by
        rw [w64 (by omega), show (m : Int) - 1 = ((m - 1 : Nat) : Int) by omega, rd_get _ (m - 1) (by omega), ← hb]
        exact List.pairwise_iff_getElem.1 (show (beginsI l).Pairwise (· < ·) from beginsFrom_sorted l l.length 0) (m - 1) m (by omega) hm (by omega)
      rw [if_pos h0, if_pos (by rw [w64 (by omega)]; omega), if_pos (by rw [w64 (by omega)]; omega), if_neg (by omega), fOpen_eq r c l cu lo ins _ hn b0 b1, Option.bind_some, hO, hj1, if_neg (by decide)]
    · rw [if_neg h0, fOpen_eq r c l cu lo ins _ hn b0 b1, Option.bind_some, hO, hj1, if_neg (by decide)]

theorem FieldParts_pure (r c : Int) (l : List S39) (cu : Int) (lo ins : Bool) (wl : ∀ x ∈ l, wfC x) : shutterlaw11_FieldParts.f 50000 r c l cu lo ins = some true := by
  unfold shutterlaw11_FieldParts.f
  rw [awake11_eq 50000 (by omega), Option.bind_some, if_pos rfl]
  obtain ⟨b, hb, hi⟩ := rFew_eq 50000 r c l cu lo ins (by omega)
  rw [hb, Option.bind_some]
  cases b with
  | false => rw [if_neg (by decide), Option.bind_some]
  | true =>
    obtain ⟨hl, hr⟩ := hi.1 rfl
    rw [if_pos rfl, fBegins_eq 50000 r c l cu lo ins (by omega) (by omega), Option.bind_some, if_pos (by omega), if_pos (by rw [Int.toNat_natCast]; omega), Int.toNat_natCast, seenL_zero l.length (metQ l 0) (fun x => by unfold metQ; rw [List.take_zero]; rfl)]
    have hlen := begins_len l
    have h1 : (beginsI l).length * (l.length + 5) ≤ 200 * 205 := Nat.mul_le_mul (by omega) (by omega)
    exact parts_l0 r c l cu lo ins (by omega) (beginsI l).length 0 50000 (by omega) (by omega)
end Go.Proofs.Ytapcfcagjlmgjaa.P
