/-
The line of a cell, a field modified, a screen denied: edit's functions and the document's come to the same, over plain lists. No Go in it.
-/
import Derived.Test.YtggecanpjkpkiaaDoorM2
import Derived.Test.YtggecanpjkpkiaaDoorM3
import Derived.Test.YtggecanpjkpkiaaDoorM7
import Derived.Test.YtggecanpjkpkiaaDoorPx11
import Derived.Test.YtggecanpjkpkiaaDoorPx14
import Derived.Test.YtggecanpjkpkiaaDoorPx5
import Derived.Test.YtggecanpjkpkiaaDoorPx6
namespace Go.Proofs.YtggecanpjkpkiaaDoor.P
open Go.RowKit Go.Proofs.YtggecanpjkpkiaaDoorW.PrintWords Go.Proofs.YtggecanpjkpkiaaDoorW.PrintLast
set_option linter.unusedVariables false
set_option linter.unusedSimpArgs false
theorem fOn_eq (r c : Int) (l : List S35) (cu : Int) (lo ins : Bool) (a d : Int) (hn : l.length ≤ 16383) (h0 : 0 ≤ a) (h1 : a < l.length) : grid_On.f r c l cu lo ins a d = some (onI l.length a d) := grid_On.eq r c l cu lo ins a d hn h0 h1
theorem fCopy_eq (r c : Int) (l : List S35) (cu : Int) (lo ins : Bool) (hn : l.length ≤ 16383) : grid_Copy.f r c l cu lo ins = some (r, c, l, cu, lo, ins) := by
  unfold grid_Copy.f slices_Clone_shutter_api_Cell_shutter_api_Cell.f
  rw [if_pos hn]; rfl
theorem rNx_eq (r c : Int) (l : List S35) (cu : Int) (lo ins : Bool) (a : Int) (hn : l.length ≤ 16383) (h0 : 0 ≤ a) (h1 : a < l.length) : shutterref10_Next.f r c l cu lo ins a = some (onI l.length a 1) := by
  unfold shutterref10_Next.f onI
  rw [w64 (by omega)]
  by_cases h : a + 1 = (l.length : Int)
  · rw [if_pos h, h, Int.emod_self]
  · rw [if_neg h, Int.emod_eq_of_lt (by omega) (by omega)]
/-- the line of a cell -/
def rowI (l : List S35) (a : Int) : List Int := if openI l a = true then (cellsI l a).dropWhile (fun x => x != a) else []
theorem open_isF {l : List S35} {a : Int} (h : openI l a = true) : isF l a = false := by
  unfold openI at h; cases hf : isF l a
  · rfl
  · rw [hf] at h; cases h
theorem rd_nat_int (L : List Int) (k : Nat) (hk : k < L.length) : rd L (k : Int) = L[k] := by unfold rd; simp [hk]
theorem takeW_len (p : Int → Bool) (g : Nat → Int) : ∀ c s, (takeW p g c s).length ≤ c
  | 0, s => Nat.le_refl _
  | c + 1, s => by
    unfold takeW; split
    · simp
    · have := takeW_len p g c (s + 1); rw [List.length_cons]; omega
theorem cells_len (l : List S35) (a : Int) : (cellsI l a).length ≤ l.length := by
  unfold cellsI; split
  · rw [uptoI_length]; exact Nat.le_refl _
  · exact takeW_len _ _ _ _
theorem row_len (l : List S35) (a : Int) : (rowI l a).length ≤ l.length := by
  unfold rowI; split
  · exact Nat.le_trans (List.Sublist.length_le (List.dropWhile_sublist _)) (cells_len l a)
  · exact Nat.zero_le _
/-- where a cell stands in a list that has it: what lies behind it is the rest from it on -/
theorem index_loop (L : List Int) (a : Int) (hL : L.length ≤ 100000) : ∀ (d k i : Nat), d + i = L.length → d < k → a ∈ L.drop i → ∃ j : Nat, i ≤ j ∧ j < L.length ∧ slices_Index_int_int.l0 k L a L.length i = some (j : Int) ∧ L.drop j = (L.drop i).dropWhile (fun x => x != a)
  | 0, k, i, hd, hk, hm => by rw [List.drop_eq_nil_of_le (by omega)] at hm; cases hm
  | d + 1, k, i, hd, hk, hm => by
    obtain ⟨k, rfl⟩ : ∃ m, k = m + 1 := ⟨k - 1, by omega⟩
    have hi : i < L.length := by omega
    rw [slices_Index_int_int.l0, if_pos (by omega), if_pos (by omega), if_pos (by omega), rd_nat_int L i hi]
    rw [List.drop_eq_getElem_cons hi] at hm ⊢
    by_cases h : a = L[i]
    · rw [if_pos h]
      refine ⟨i, Nat.le_refl _, hi, rfl, ?_⟩
      rw [List.dropWhile_cons, if_neg (by simp [h]), List.drop_eq_getElem_cons hi]
    · rw [if_neg h, w64 (by omega)]
      have hm' : a ∈ L.drop (i + 1) := by
        rcases List.mem_cons.1 hm with e | e
        · exact absurd e h
        · exact e
      obtain ⟨j, h1, h2, h3, h4⟩ := index_loop L a hL d k (i + 1) (by omega) (by omega) hm'
      refine ⟨j, by omega, h2, h3, ?_⟩
      rw [h4, List.dropWhile_cons, if_pos (by simp; exact fun e => h e.symm)]
theorem fLine_eq (k : Nat) (r c : Int) (l : List S35) (cu : Int) (lo ins : Bool) (a : Int) (hn : l.length ≤ 16383) (h0 : 0 ≤ a) (h1 : a < l.length) (hk : l.length < k) : edit_Line.f k r c l cu lo ins a = some (rowI l a) := by
  unfold edit_Line.f rowI
  rw [fOpen_eq r c l cu lo ins a hn h0 h1, Option.bind_some]
  by_cases ho : openI l a = true
  · rw [if_pos ho, if_pos ho, fCells_eq r c l cu lo ins a hn h0 h1, Option.bind_some]
    have hc := cells_all l a h0 h1 (open_isF ho)
    have hl := cells_len l a
    obtain ⟨j, _, hj, he, hd⟩ := index_loop (cellsI l a) a (by omega) (cellsI l a).length k 0 (by omega) (by omega) (by rw [List.drop_zero]; exact hc.1)
    unfold slices_Index_int_int.f
    rw [show ((0 : Nat) : Int) = 0 from rfl] at he
    rw [he, Option.bind_some, if_pos (by omega), if_pos (by omega), Int.toNat_natCast, hd, List.drop_zero]
  · rw [if_neg ho, if_neg ho]
theorem line_loop14 (L : List Int) (a : Int) (hL : L.length ≤ 100000) : ∀ (d k i : Nat) (out : List Int) (on : Bool), d + i = L.length → d < k → out.length ≤ i → shutterref14_Line.l0 k a out L on i = some (out ++ if on = true then L.drop i else (L.drop i).dropWhile (fun x => x != a))
  | 0, k, i, out, on, hd, hk, ho => by
    obtain ⟨k, rfl⟩ : ∃ m, k = m + 1 := ⟨k - 1, by omega⟩
    rw [shutterref14_Line.l0, if_neg (by omega), List.drop_eq_nil_of_le (by omega)]
    cases on <;> simp
  | d + 1, k, i, out, on, hd, hk, ho => by
    obtain ⟨k, rfl⟩ : ∃ m, k = m + 1 := ⟨k - 1, by omega⟩
    have hi : i < L.length := by omega
    rw [shutterref14_Line.l0, if_pos (by omega), if_pos (by omega), rd_nat_int L i hi, w64 (by omega)]
    have ih := fun on' out' (ho' : out'.length ≤ i + 1) => line_loop14 L a hL d k (i + 1) out' on' (by omega) (by omega) ho'
    rw [Int.natCast_add] at ih
    rw [show ((1 : Nat) : Int) = 1 from rfl] at ih
    rw [List.drop_eq_getElem_cons hi]
    by_cases h : L[i] = a
    · have hd2 : ((L[i] :: L.drop (i + 1)).dropWhile (fun x => x != a)) = L[i] :: L.drop (i + 1) := by
        rw [List.dropWhile_cons, if_neg]
        rw [h]; simp
      rw [if_pos h, if_pos (by omega), ih true _ (by simp; omega), if_pos rfl, hd2]
      cases on <;> simp
    · rw [if_neg h]
      cases on with
      | true => rw [if_pos rfl, if_pos (by omega), ih true _ (by simp; omega), if_pos rfl, if_pos rfl]; simp
      | false => rw [if_neg (by decide), ih false _ (by omega), if_neg (by decide), if_neg (by decide), List.dropWhile_cons, if_pos (by simpa using h)]
theorem rLine_eq (k : Nat) (r c : Int) (l : List S35) (cu : Int) (lo ins : Bool) (a : Int) (hn : l.length ≤ 16383) (h0 : 0 ≤ a) (h1 : a < l.length) (hk : l.length + 2 < k) : shutterref14_Line.f k r c l cu lo ins a = some (rowI l a) := by
  unfold shutterref14_Line.f rowI
  rw [rOpen_eq k r c l cu lo ins a hn h0 h1 hk, Option.bind_some]
  by_cases ho : openI l a = true
  · have hl := cells_len l a
    rw [if_pos ho, if_pos ho, rCells_eq k r c l cu lo ins a hn h0 h1 hk, Option.bind_some]
    have := line_loop14 (cellsI l a) a (by omega) (cellsI l a).length k 0 [] false (by omega) (by omega) (Nat.zero_le _)
    rw [show ((0 : Nat) : Int) = 0 from rfl] at this
    rw [this, if_neg (by decide)]; simp
  · rw [if_neg ho, if_neg ho]
/-- a cell, modified -/
def modC (x : S35) : S35 := ⟨x.f0, ⟨x.f1.f0, x.f1.f1, x.f1.f2, true⟩, x.f2⟩
/-- a cell's field, modified -/
def modI (l : List S35) (a : Int) : List S35 := if 0 ≤ beginI l a then l.set (beginI l a).toNat (modC (rd_T35 l (beginI l a))) else l
theorem modI_length (l : List S35) (a : Int) : (modI l a).length = l.length := by unfold modI; split <;> simp
theorem fModify_eq (r c : Int) (l : List S35) (cu : Int) (lo ins : Bool) (a : Int) (hn : l.length ≤ 16383) (h0 : 0 ≤ a) (h1 : a < l.length) : edit_Modify.f r c l cu lo ins a = some (r, c, modI l a, cu, lo, ins) := by
  unfold edit_Modify.f modI
  rw [fCopy_eq r c l cu lo ins hn, Option.bind_some]
  simp only
  rw [fBegin_eq r c l cu lo ins a hn h0 h1, Option.bind_some]
  rcases begin_range l a (by omega) with hb | ⟨b0, b1, _⟩
  · rw [hb, if_neg (by decide), if_neg (by decide)]
  · rw [if_pos b0, if_pos b0, if_pos b1, if_pos b0]; rfl
theorem rModify_eq (k : Nat) (r c : Int) (l : List S35) (cu : Int) (lo ins : Bool) (a : Int) (hn : l.length ≤ 16383) (h0 : 0 ≤ a) (h1 : a < l.length) (hk : l.length + 2 < k) : shutterref14_Modify.f k r c l cu lo ins a = some (r, c, modI l a, cu, lo, ins) := by
  unfold shutterref14_Modify.f modI
  rw [rCopy_eq r c l cu lo ins hn, Option.bind_some]
  simp only
  rw [rBegin_eq k r c l cu lo ins a hn h0 h1 hk, Option.bind_some]
  rcases begin_range l a (by omega) with hb | ⟨b0, b1, _⟩
  · rw [hb, if_neg (by decide), if_neg (by decide)]
  · rw [if_pos b0, if_pos b0, if_pos b1, if_pos b0]; rfl
theorem fDeny_eq (r c : Int) (l : List S35) (cu : Int) (lo ins : Bool) (n : Int) (x : List S164) (hn : l.length ≤ 16383) : edit_Deny.f r c l cu lo ins (some (Er.num n)) x = some (r, c, l, cu, true, ins, some Er.spot, [⟨cu, n⟩]) := by
  unfold edit_Deny.f; rw [if_pos hn]
theorem rDeny_eq (r c : Int) (l : List S35) (cu : Int) (lo ins : Bool) (hn : l.length ≤ 16383) : shutterref14_Deny.f r c l cu lo ins = some (r, c, l, cu, true, ins) := by
  unfold shutterref14_Deny.f; rw [rCopy_eq r c l cu lo ins hn, Option.bind_some]
theorem digit_same (a : Int) : edit_Digit.f a = shutterref14_Digit.f a := rfl
end Go.Proofs.YtggecanpjkpkiaaDoor.P
