/-
The document's answers of the layers 10 and 11, as the print tells them, are the plain functions that field's own contracts tell. No Go in it.
-/
import Derived.Test.YtggecanpjkpkiaaDoorM1
import Derived.Test.YtggecanpjkpkiaaDoorPx10
import Derived.Test.YtggecanpjkpkiaaDoorPx14
import Derived.Test.YtggecanpjkpkiaaDoorPx15
import Derived.Test.YtggecanpjkpkiaaDoorPx17
namespace Go.Proofs.YtggecanpjkpkiaaDoor.P
open Go.RowKit Go.Proofs.YtggecanpjkpkiaaDoorW.PrintWords Go.Proofs.YtggecanpjkpkiaaDoorW.PrintLast
set_option linter.unusedVariables false
set_option linter.unusedSimpArgs false

theorem mod_eq (k : Nat) (x : Int) (n : Nat) (hk : 1 < k) (h0 : 0 < n) (hn : n ≤ 16383) (hx : -(n : Int) ≤ x) (hx1 : x ≤ 100000) : shutterref11_mod.f k x n = some (x % (n : Int)) := by
  unfold shutterref11_mod.f
  obtain ⟨k, rfl⟩ : ∃ m, k = m + 2 := ⟨k - 2, by omega⟩
  have hz : ¬ (n : Int) = 0 := by omega
  by_cases hx0 : x < 0
  · rw [shutterref11_mod.l0, if_pos hx0, w64 (by omega), shutterref11_mod.l0, if_neg (by omega), if_neg hz, Int.tmod_eq_emod_of_nonneg (by omega), Int.add_emod_right]
  · rw [shutterref11_mod.l0, if_neg hx0, if_neg hz, Int.tmod_eq_emod_of_nonneg (by omega)]

theorem mod_eq2 (k : Nat) (x : Int) (n : Nat) (hk : 2 < k) (h0 : 0 < n) (hn : n ≤ 16383) (hx : -(n : Int) - 1 ≤ x) (hx1 : x ≤ 100000) : shutterref11_mod.f k x n = some (x % (n : Int)) := by
  by_cases hx2 : -(n : Int) ≤ x
  · exact mod_eq k x n (by omega) h0 hn hx2 hx1
  · unfold shutterref11_mod.f
    obtain ⟨k, rfl⟩ : ∃ m, k = m + 1 := ⟨k - 1, by omega⟩
    rw [shutterref11_mod.l0, if_pos (by omega), w64 (by omega)]
    have := mod_eq k (x + n) n (by omega) h0 hn (by omega) (by omega)
    unfold shutterref11_mod.f at this
    rw [this, Int.add_emod_right]
theorem rBegin_loop (r c : Int) (l : List S35) (cu : Int) (lo ins : Bool) (a : Int) (hn : l.length ≤ 16383) (h0 : 0 ≤ a) (h1 : a < l.length) : ∀ (d k i : Nat), d + i = l.length → d + 2 < k → shutterref11_Begin.l0 k a i r c l cu lo ins = some (findW (isF l) (fun j => (a - j) % (l.length : Int)) d i)
  | 0, k, i, hd, hk => by
    obtain ⟨k, rfl⟩ : ∃ m, k = m + 1 := ⟨k - 1, by omega⟩
    rw [shutterref11_Begin.l0, if_neg (by omega)]; rfl
  | d + 1, k, i, hd, hk => by
    obtain ⟨k, rfl⟩ : ∃ m, k = m + 1 := ⟨k - 1, by omega⟩
    rw [shutterref11_Begin.l0, if_pos (by omega), w64 (by omega), mod_eq k _ _ (by omega) (by omega) hn (by omega) (by omega), Option.bind_some, if_pos (Int.emod_nonneg _ (by omega)), if_pos (Int.emod_lt_of_pos _ (by omega)), findW, isF_rd]
    show _ = some (if isF l ((a - (i : Int)) % (l.length : Int)) = true then (a - (i : Int)) % (l.length : Int) else _)
    by_cases hf : isF l ((a - i) % (l.length : Int)) = true
    · rw [if_pos hf, if_pos hf]
    · rw [if_neg hf, if_neg hf, w64 (by omega)]
      exact rBegin_loop r c l cu lo ins a hn h0 h1 d k (i + 1) (by omega) (by omega)
theorem rBegin_eq (k : Nat) (r c : Int) (l : List S35) (cu : Int) (lo ins : Bool) (a : Int) (hn : l.length ≤ 16383) (h0 : 0 ≤ a) (h1 : a < l.length) (hk : l.length + 2 < k) : shutterref11_Begin.f k r c l cu lo ins a = some (beginI l a) :=
  rBegin_loop r c l cu lo ins a hn h0 h1 l.length k 0 rfl hk
theorem rCells_loop (r c : Int) (l : List S35) (cu : Int) (lo ins : Bool) (b : Int) (hn : l.length ≤ 16383) (h0 : -1 ≤ b) (h1 : b < l.length) : ∀ (d k i : Nat) (out : List Int), d + i = l.length → d + 2 < k → out.length ≤ i → shutterref11_Cells.l0 k out b ((i : Int) + 1) r c l cu lo ins = some (out ++ takeW (isF l) (fun j => (b + 1 + j) % (l.length : Int)) d i)
  | 0, k, i, out, hd, hk, ho => by
    obtain ⟨k, rfl⟩ : ∃ m, k = m + 1 := ⟨k - 1, by omega⟩
    rw [shutterref11_Cells.l0, if_neg (by omega)]; simp [takeW]
  | d + 1, k, i, out, hd, hk, ho => by
    obtain ⟨k, rfl⟩ : ∃ m, k = m + 1 := ⟨k - 1, by omega⟩
    rw [shutterref11_Cells.l0, if_pos (by omega), w64 (by omega), mod_eq k _ _ (by omega) (by omega) hn (by omega) (by omega), Option.bind_some, if_pos (Int.emod_nonneg _ (by omega)), if_pos (Int.emod_lt_of_pos _ (by omega)), takeW, isF_rd]
    show _ = some (out ++ (if isF l ((b + 1 + (i : Int)) % (l.length : Int)) = true then _ else ((b + 1 + (i : Int)) % (l.length : Int)) :: _))
    have e : (b + ((i : Int) + 1)) % (l.length : Int) = (b + 1 + i) % (l.length : Int) := by congr 1; omega
    rw [e]
    by_cases hf : isF l ((b + 1 + i) % (l.length : Int)) = true
    · rw [if_pos hf, if_pos hf, List.append_nil]
    · rw [if_neg hf, if_neg hf, if_pos (by omega), w64 (by omega)]
      have := rCells_loop r c l cu lo ins b hn h0 h1 d k (i + 1) (out ++ [(b + 1 + i) % (l.length : Int)]) (by omega) (by omega) (by simp; omega)
      rw [Int.natCast_add] at this
      rw [show (i : Int) + 1 + 1 = ((i : Int) + ((1 : Nat) : Int)) + 1 by omega, this, List.append_assoc]; rfl
theorem rCells_eq (k : Nat) (r c : Int) (l : List S35) (cu : Int) (lo ins : Bool) (a : Int) (hn : l.length ≤ 16383) (h0 : 0 ≤ a) (h1 : a < l.length) (hk : l.length + 2 < k) : shutterref11_Cells.f k r c l cu lo ins a = some (cellsI l a) := by
  unfold shutterref11_Cells.f
  rw [rBegin_eq k r c l cu lo ins a hn h0 h1 hk, Option.bind_some]
  have hb : -1 ≤ beginI l a ∧ beginI l a < l.length := by rcases begin_range l a (by omega) with h | ⟨h, h', _⟩ <;> omega
  have := rCells_loop r c l cu lo ins (beginI l a) hn hb.1 hb.2 l.length k 0 [] rfl hk (Nat.le_refl _)
  rw [show ((0 : Nat) : Int) + 1 = 1 from rfl] at this
  rw [this, List.nil_append]
  congr 1
  unfold cellsI
  rcases begin_range l a (by omega) with hb | ⟨hb0, hb1, _⟩
  · rw [hb, if_pos (by decide)]
    have hg : ∀ j, j < l.length → (-1 + 1 + (j : Int)) % (l.length : Int) = j := fun j hj => by rw [show (-1 + 1 + (j : Int)) = j by omega]; exact Int.emod_eq_of_lt (by omega) (by omega)
    have := takeW_eq (isF l) (fun j => (-1 + 1 + (j : Int)) % (l.length : Int)) l.length 0 l.length (Nat.le_refl _) (fun i hi => by
      rw [Nat.zero_add]; show isF l ((-1 + 1 + (i : Int)) % (l.length : Int)) = false
      rw [hg i hi]; exact no_field l a (by omega) h0 h1 hb i (by omega) (by omega)) (.inl rfl)
    rw [this]
    unfold uptoI
    refine List.map_congr_left fun j hj => ?_
    rw [Nat.zero_add]; exact hg j (List.mem_range.1 hj)
  · rw [if_neg (by omega)]
    refine takeW_congr _ _ _ (fun j => ?_) _ _
    unfold wayI sgnI; simp
theorem rOf_eq (k : Nat) (r c : Int) (l : List S35) (cu : Int) (lo ins : Bool) (a : Int) (hn : l.length ≤ 16383) (h0 : 0 ≤ a) (h1 : a < l.length) (hk : l.length + 2 < k) : shutterref11_Of.f k r c l cu lo ins a = some ((ofI l a).f0, (ofI l a).f1, (ofI l a).f2, (ofI l a).f3) := by
  unfold shutterref11_Of.f ofI
  rw [rBegin_eq k r c l cu lo ins a hn h0 h1 hk, Option.bind_some]
  rcases begin_range l a (by omega) with hb | ⟨hb0, hb1, _⟩
  · rw [hb, if_pos (by decide), if_pos (by decide)]
  · have hlt : ¬ beginI l a < 0 := by omega
    rw [if_neg hlt, if_pos hb0, if_pos hb1, if_neg hlt]
theorem rOpen_eq (k : Nat) (r c : Int) (l : List S35) (cu : Int) (lo ins : Bool) (a : Int) (hn : l.length ≤ 16383) (h0 : 0 ≤ a) (h1 : a < l.length) (hk : l.length + 2 < k) : shutterref11_Open.f k r c l cu lo ins a = some (openI l a) := by
  unfold shutterref11_Open.f openI
  rw [if_pos h0, if_pos h1, rOf_eq k r c l cu lo ins a hn h0 h1 hk, isF_rd]
  cases isF l a <;> simp

theorem rfirst_eq (k : Nat) (r c : Int) (l : List S35) (cu : Int) (lo ins : Bool) (i : Int) (hn : l.length ≤ 16383) (h0 : 0 ≤ i) (h1 : i < l.length) (hk : 1 < k) : shutterref11_first.f k r c l cu lo ins i = some (if entI l i = true then onI l.length i 1 else -1) := by
  have hp : 0 < l.length := by omega
  unfold shutterref11_first.f
  rw [w64 (by omega), mod_eq k _ _ hk hp hn (by omega) (by omega), Option.bind_some, if_pos h0, if_pos h1, isF_rd, if_pos (Int.emod_nonneg _ (by omega)), if_pos (Int.emod_lt_of_pos _ (by omega)), isF_rd]
  unfold entI protI
  show _ = some (if (isF l i && !(rd_T35 l i).f1.f0 && !isF l ((i + 1) % (l.length : Int))) = true then (i + 1) % (l.length : Int) else -1)
  cases isF l i <;> cases (rd_T35 l i).f1.f0 <;> cases isF l ((i + 1) % (l.length : Int)) <;> rfl

theorem rNext_loop (r c : Int) (l : List S35) (cu : Int) (lo ins : Bool) (a : Int) (hn : l.length ≤ 16383) (h0 : 0 ≤ a) (h1 : a < l.length) : ∀ (d k i : Nat), d + i = l.length → d + 2 < k → shutterref11_Next.l0 k a ((i : Int) + 1) r c l cu lo ins = some (if findW (entI l) (fun j => (a + (j + 1)) % (l.length : Int)) d i < 0 then -1 else onI l.length (findW (entI l) (fun j => (a + (j + 1)) % (l.length : Int)) d i) 1)
  | 0, k, i, hd, hk => by
    obtain ⟨k, rfl⟩ : ∃ m, k = m + 1 := ⟨k - 1, by omega⟩
    rw [shutterref11_Next.l0, if_neg (by omega)]; rfl
  | d + 1, k, i, hd, hk => by
    obtain ⟨k, rfl⟩ : ∃ m, k = m + 1 := ⟨k - 1, by omega⟩
    have hp : 0 < l.length := by omega
    have m0 := Int.emod_nonneg (a + ((i : Int) + 1)) (b := (l.length : Int)) (by omega)
    have m1 := Int.emod_lt_of_pos (a + ((i : Int) + 1)) (b := (l.length : Int)) (by omega)
    rw [shutterref11_Next.l0, if_pos (by omega), w64 (by omega), mod_eq k _ _ (by omega) hp hn (by omega) (by omega), Option.bind_some, rfirst_eq k r c l cu lo ins _ hn m0 m1 (by omega), Option.bind_some]
    have hF : findW (entI l) (fun j => (a + (j + 1)) % (l.length : Int)) (d + 1) i = if entI l ((a + ((i : Int) + 1)) % (l.length : Int)) = true then (a + ((i : Int) + 1)) % (l.length : Int) else findW (entI l) (fun j => (a + (j + 1)) % (l.length : Int)) d (i + 1) := rfl
    rw [hF]
    by_cases hf : entI l ((a + ((i : Int) + 1)) % (l.length : Int)) = true
    · rw [if_pos hf, if_pos hf, if_pos (onI_nonneg hp _ _), if_neg (by omega)]
    · rw [if_neg hf, if_neg hf, if_neg (by decide), w64 (by omega)]
      have := rNext_loop r c l cu lo ins a hn h0 h1 d k (i + 1) (by omega) (by omega)
      rw [Int.natCast_add] at this
      exact this
theorem rNext_eq (k : Nat) (r c : Int) (l : List S35) (cu : Int) (lo ins : Bool) (a : Int) (hn : l.length ≤ 16383) (h0 : 0 ≤ a) (h1 : a < l.length) (hk : l.length + 2 < k) : shutterref11_Next.f k r c l cu lo ins a = some (nextI l a) := by
  have := rNext_loop r c l cu lo ins a hn h0 h1 l.length k 0 rfl hk
  rw [show ((0 : Nat) : Int) + 1 = 1 from rfl] at this
  unfold shutterref11_Next.f
  rw [this, nextI, firstI]
  rw [findW_congr (entI l) (fun j => (a + (j + 1)) % (l.length : Int)) (wayI l.length a 1) (fun j => by unfold wayI sgnI; simp; congr 1; omega)]
theorem rInts_loop (x : List Int) (hn : x.length ≤ 100000) : ∀ (d k i : Nat), d + i = x.length → d < k → shutterref10_Ints.l0 k x x i = some true
  | 0, k, i, hd, hk => by
    obtain ⟨k, rfl⟩ : ∃ m, k = m + 1 := ⟨k - 1, by omega⟩
    rw [shutterref10_Ints.l0, if_neg (by omega)]
  | d + 1, k, i, hd, hk => by
    obtain ⟨k, rfl⟩ : ∃ m, k = m + 1 := ⟨k - 1, by omega⟩
    rw [shutterref10_Ints.l0, if_pos (by omega), if_pos (by omega), if_pos (by omega), if_pos rfl, w64 (by omega)]
    exact rInts_loop x hn d k (i + 1) (by omega) (by omega)
theorem rInts_same (k : Nat) (x : List Int) (hn : x.length ≤ 100000) (hk : x.length < k) : shutterref10_Ints.f k x x = some true := by
  unfold shutterref10_Ints.f
  rw [if_pos rfl]
  exact rInts_loop x hn x.length k 0 rfl hk

end Go.Proofs.YtggecanpjkpkiaaDoor.P
