/-
A cell's field, its cells, over plain lists. No Go in it.
-/
import Derived.Test.YtggecanpjkpkiaaDoorM4
import Derived.Test.YtggecanpjkpkiaaDoorPx5
namespace Go.Proofs.YtggecanpjkpkiaaDoor.P
open Go.RowKit Go.Proofs.YtggecanpjkpkiaaDoorW.PrintWords Go.Proofs.YtggecanpjkpkiaaDoorW.PrintLast
set_option linter.unusedVariables false
set_option linter.unusedSimpArgs false
theorem emod_over (x : Int) (n : Nat) (h0 : (n : Int) ≤ x) (h1 : x < 2 * n) : x % (n : Int) = x - n := by
  have h : (x - n) % (n : Int) = x % (n : Int) := by rw [Int.sub_emod, Int.emod_self, Int.sub_zero, Int.emod_emod_of_dvd _ (Int.dvd_refl _)]
  rw [← h]; exact Int.emod_eq_of_lt (by omega) (by omega)
theorem emod_under (x : Int) (n : Nat) (h0 : -(n : Int) ≤ x) (h1 : x < 0) : x % (n : Int) = x + n := by
  have h : (x + n - n) % (n : Int) = (x + n) % (n : Int) := by rw [Int.sub_emod, Int.emod_self, Int.sub_zero, Int.emod_emod_of_dvd _ (Int.dvd_refl _)]
  rw [show x + n - n = x by omega] at h
  rw [h]; exact Int.emod_eq_of_lt (by omega) (by omega)
theorem way_val (n : Nat) (b : Int) (i : Nat) (b0 : 0 ≤ b) (b1 : b < n) (hi : i < n) : wayI n b 1 i = if b + 1 + i < n then b + 1 + i else b + 1 + i - n := by
  have e : wayI n b 1 i = (b + 1 + i) % (n : Int) := by unfold wayI sgnI; rw [if_neg (by omega), Int.one_mul]
  rw [e]
  by_cases h : b + 1 + i < n
  · rw [if_pos h]; exact Int.emod_eq_of_lt (by omega) h
  · rw [if_neg h]; exact emod_over _ _ (by omega) (by omega)
theorem back_val (n : Nat) (x : Int) (j : Nat) (x0 : 0 ≤ x) (x1 : x < n) (hj : j < n) : (x - j) % (n : Int) = if (j : Int) ≤ x then x - j else x - j + n := by
  by_cases h : (j : Int) ≤ x
  · rw [if_pos h]; exact Int.emod_eq_of_lt (by omega) (by omega)
  · rw [if_neg h]; exact emod_under _ _ (by omega) (by omega)

theorem takeW_way (p : Int → Bool) (g : Nat → Int) : ∀ c s, ∃ k, k ≤ c ∧ takeW p g c s = uptoI (fun j => g (s + j)) k ∧ (∀ i, i < k → p (g (s + i)) = false) ∧ (k = c ∨ p (g (s + k)) = true)
  | 0, s => ⟨0, Nat.le_refl _, rfl, fun i h => by omega, .inl rfl⟩
  | c + 1, s => by
    by_cases h : p (g s) = true
    · exact ⟨0, by omega, by rw [takeW, if_pos h]; rfl, fun i hi => by omega, .inr h⟩
    · obtain ⟨k, h1, h2, h3, h4⟩ := takeW_way p g c (s + 1)
      refine ⟨k + 1, by omega, ?_, fun i hi => ?_, ?_⟩
      · rw [takeW, if_neg h, h2, uptoI_front]; simp only [Nat.add_zero]; congr 1; congr 1; funext j; rw [show s + 1 + j = s + (j + 1) by omega]
      · rcases i with _ | i
        · simpa using h
        · have := h3 i (by omega); rw [show s + (i + 1) = s + 1 + i by omega]; exact this
      · rcases h4 with h4 | h4
        · left; omega
        · right; rw [show s + (k + 1) = s + 1 + k by omega]; exact h4

/-- the cells behind a cell with a field, up to the next one -/
theorem cells_parts (l : List S35) (b : Int) (b0 : 0 ≤ b) (b1 : b < l.length) (hF : isF l b = true) :
    ∃ k, k < l.length ∧ cellsI l b = uptoI (wayI l.length b 1) k ∧ (∀ i, i < k → isF l (wayI l.length b 1 i) = false) ∧ isF l (wayI l.length b 1 k) = true := by
  obtain ⟨k, h1, h2, h3, h4⟩ := takeW_way (isF l) (wayI l.length b 1) l.length 0
  simp only [Nat.zero_add] at h2 h3 h4
  have hlast : wayI l.length b 1 (l.length - 1) = b := by
    rw [way_val _ _ _ b0 b1 (by omega)]; split <;> omega
  have hk : k ≠ l.length := fun e => by
    have := h3 (l.length - 1) (by omega)
    rw [hlast, hF] at this; cases this
  refine ⟨k, by omega, ?_, h3, ?_⟩
  · unfold cellsI
    rw [begin_here l b b0 b1 hF, if_neg (by omega)]; exact h2
  · rcases h4 with h4 | h4
    · exact absurd h4 hk
    · exact h4
theorem begin_at (l : List S35) (x : Int) (j : Nat) (hj : j < l.length) (h : isF l ((x - j) % (l.length : Int)) = true) (h' : ∀ i : Nat, i < j → isF l ((x - i) % (l.length : Int)) = false) : beginI l x = (x - j) % (l.length : Int) :=
  findW_eq (isF l) (fun j => (x - j) % (l.length : Int)) l.length 0 j (by omega) (by omega) h (fun i _ hi => h' i hi)
theorem parts_in (l : List S35) (b : Int) (b0 : 0 ≤ b) (b1 : b < l.length) (hF : isF l b = true) (k : Nat) (hk : k < l.length) (hn : ∀ i, i < k → isF l (wayI l.length b 1 i) = false) (i : Nat) (hi : i < k) : beginI l (wayI l.length b 1 i) = b := by
  have v := way_val l.length b i b0 b1 (by omega)
  have w0 : 0 ≤ wayI l.length b 1 i ∧ wayI l.length b 1 i < l.length := by rw [v]; split <;> omega
  have e : (wayI l.length b 1 i - ((i + 1 : Nat) : Int)) % (l.length : Int) = b := by
    rw [back_val _ _ _ w0.1 w0.2 (by omega), v]; split <;> split <;> omega
  have := begin_at l (wayI l.length b 1 i) (i + 1) (by omega) (by rw [e]; exact hF) (fun j hj => by
    have e' : (wayI l.length b 1 i - (j : Int)) % (l.length : Int) = wayI l.length b 1 (i - j) := by
      rw [back_val _ _ _ w0.1 w0.2 (by omega), v, way_val _ _ _ b0 b1 (by omega)]; split <;> split <;> split <;> omega
    rw [e']; exact hn _ (by omega))
  rw [this, e]
theorem parts_all (l : List S35) (b : Int) (b0 : 0 ≤ b) (b1 : b < l.length) (k : Nat) (hk : k < l.length) (hK : isF l (wayI l.length b 1 k) = true) (x : Int) (x0 : 0 ≤ x) (x1 : x < l.length) (hx : beginI l x = b) (ne : x ≠ b) : ∃ i, i < k ∧ wayI l.length b 1 i = x := by
  rcases findW_cases (isF l) (fun j => (x - j) % (l.length : Int)) l.length 0 with ⟨h, _⟩ | ⟨j, _, hj, hp, hall, h⟩
  · have : beginI l x = -1 := h
    omega
  · have e : (x - (j : Int)) % (l.length : Int) = b := (show beginI l x = _ from h).symm.trans hx
    have v := back_val l.length x j x0 x1 (by omega)
    rw [e] at v
    have hj0 : j ≠ 0 := fun z => by
      subst z; rw [if_pos (by omega)] at v; omega
    have e2 : wayI l.length b 1 (j - 1) = x := by
      rw [way_val _ _ _ b0 b1 (by omega)]; revert v; split <;> split <;> omega
    refine ⟨j - 1, ?_, e2⟩
    rcases Nat.lt_or_ge (j - 1) k with hh | hh
    · exact hh
    · exfalso
      have e3 : (x - ((j - 1 - k : Nat) : Int)) % (l.length : Int) = wayI l.length b 1 k := by
        rw [back_val _ _ _ x0 x1 (by omega), way_val _ _ _ b0 b1 hk]; revert v; split <;> split <;> split <;> omega
      have h5 : isF l ((x - ((j - 1 - k : Nat) : Int)) % (l.length : Int)) = false := hall (j - 1 - k) (by omega) (by omega)
      rw [e3, hK] at h5; cases h5

theorem begin_never (l : List S35) (x : Int) (x0 : 0 ≤ x) (x1 : x < l.length) (h : beginI l x = -1) (y : Int) (y0 : 0 ≤ y) (y1 : y < l.length) : isF l y = false := by
  rcases findW_cases (isF l) (fun j => (x - j) % (l.length : Int)) l.length 0 with ⟨_, ha⟩ | ⟨j, _, hj, _, _, e⟩
  · by_cases hh : y ≤ x
    · have h5 : isF l ((x - ((x - y).toNat : Int)) % (l.length : Int)) = false := ha (x - y).toNat (by omega) (by omega)
      rw [back_val _ _ _ x0 x1 (by omega), if_pos (by omega), show x - ((x - y).toNat : Int) = y by omega] at h5
      exact h5
    · have h5 : isF l ((x - ((x - y + l.length).toNat : Int)) % (l.length : Int)) = false := ha (x - y + l.length).toNat (by omega) (by omega)
      rw [back_val _ _ _ x0 x1 (by omega), if_neg (by omega), show x - ((x - y + l.length).toNat : Int) + l.length = y by omega] at h5
      exact h5
  · have e2 : beginI l x = (x - (j : Int)) % (l.length : Int) := e
    have := Int.emod_nonneg (x - (j : Int)) (b := (l.length : Int)) (by omega)
    omega
theorem begin_only (l : List S35) (h : ∀ y : Int, 0 ≤ y → y < l.length → isF l y = false) (hp : 0 < l.length) (x : Int) : beginI l x = -1 :=
  findW_none (isF l) (fun j => (x - j) % (l.length : Int)) l.length 0 (fun i _ _ => h _ (Int.emod_nonneg _ (by omega)) (Int.emod_lt_of_pos _ (by omega)))
theorem cells_of_begin (l : List S35) (a b : Int) (hb : beginI l a = b) (b0 : 0 ≤ b) (b1 : b < l.length) (hF : isF l b = true) : cellsI l a = cellsI l b := by
  unfold cellsI; rw [hb, begin_here l b b0 b1 hF]
/-- the cells of an open cell's field: a list without a cell twice, all in the field, the cell itself among them -/
theorem cells_all (l : List S35) (a : Int) (a0 : 0 ≤ a) (a1 : a < l.length) (ha : isF l a = false) :
    a ∈ cellsI l a ∧ (cellsI l a).Nodup ∧ ∀ x ∈ cellsI l a, 0 ≤ x ∧ x < l.length ∧ isF l x = false ∧ beginI l x = beginI l a := by
  have hp : 0 < l.length := by omega
  rcases begin_range l a hp with hb | ⟨b0, b1, hF⟩
  · have hn := begin_never l a a0 a1 hb
    have hc : cellsI l a = uptoI (fun j => (j : Int)) l.length := by unfold cellsI; rw [hb, if_pos (by decide)]
    rw [hc, hb]
    unfold uptoI
    refine ⟨List.mem_map.2 ⟨a.toNat, List.mem_range.2 (by omega), by omega⟩, ?_, fun x hx => ?_⟩
    · exact List.Pairwise.map _ (fun x y (h : x ≠ y) => by omega) List.nodup_range
    · obtain ⟨j, hj, rfl⟩ := List.mem_map.1 hx
      have := List.mem_range.1 hj
      exact ⟨by omega, by omega, hn _ (by omega) (by omega), begin_only l hn hp _⟩
  · obtain ⟨k, hk, hc, hn, hK⟩ := cells_parts l (beginI l a) b0 b1 hF
    rw [cells_of_begin l a _ rfl b0 b1 hF, hc]
    have hne : a ≠ beginI l a := fun e => by rw [← e, ha] at hF; cases hF
    obtain ⟨i, hi, e⟩ := parts_all l (beginI l a) b0 b1 k hk hK a a0 a1 rfl hne
    unfold uptoI
    refine ⟨List.mem_map.2 ⟨i, List.mem_range.2 hi, e⟩, ?_, fun x hx => ?_⟩
    · rw [List.Nodup, List.pairwise_map]
      refine List.Pairwise.imp_of_mem ?_ List.nodup_range
      intro x y hx hy hxy he
      have hx' := List.mem_range.1 hx
      have hy' := List.mem_range.1 hy
      rw [way_val _ _ _ b0 b1 (by omega), way_val _ _ _ b0 b1 (by omega)] at he
      revert he; split <;> split <;> omega
    · obtain ⟨j, hj, rfl⟩ := List.mem_map.1 hx
      have hj' := List.mem_range.1 hj
      exact ⟨wayI_nonneg hp _ _ _, wayI_lt hp _ _ _, hn j hj', parts_in l _ b0 b1 hF k hk hn j hj'⟩
end Go.Proofs.YtggecanpjkpkiaaDoor.P
