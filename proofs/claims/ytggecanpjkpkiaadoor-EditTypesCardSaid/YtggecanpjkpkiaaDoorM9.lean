/-
A letter that is typed: the document's answer is the one of edit.Type, over plain lists. No Go in it.
-/
import Derived.Test.YtggecanpjkpkiaaDoorM9p
import Derived.Test.YtggecanpjkpkiaaDoorPx16
namespace Go.Proofs.YtggecanpjkpkiaaDoor.P
open Go.RowKit Go.Proofs.YtggecanpjkpkiaaDoorW.PrintWords Go.Proofs.YtggecanpjkpkiaaDoorW.PrintLast
set_option linter.unusedVariables false
set_option linter.unusedSimpArgs false
def scanD (p : Int → Bool) (row : List Int) : Nat → Int → Int
  | 0, f => f
  | i + 1, f => scanD p row i (if p (rd row (i : Int)) = true then (i : Int) else f)
theorem scanD_none (p : Int → Bool) (row : List Int) : ∀ m f, (∀ i : Nat, i < m → p (rd row (i : Int)) = false) → scanD p row m f = f
  | 0, f, h => rfl
  | m + 1, f, h => by
    unfold scanD
    rw [h m (by omega), if_neg (by decide)]; exact scanD_none p row m f (fun i hi => h i (by omega))
theorem scanD_at (p : Int → Bool) (row : List Int) (j : Nat) (hj : p (rd row (j : Int)) = true) (hb : ∀ i : Nat, i < j → p (rd row (i : Int)) = false) : ∀ m f, j < m → scanD p row m f = j
  | 0, f, h => by omega
  | m + 1, f, h => by
    unfold scanD
    by_cases e : j = m
    · subst e; rw [hj, if_pos rfl]; exact scanD_none p row j _ hb
    · exact scanD_at p row j hj hb m _ (by omega)
theorem scan_free (l : List S35) (a : Int) : scanD (emptyC l) (rowI l a) (rowI l a).length (-1) = freeI l a := by
  rcases indexW_from (emptyC l) (rowI l a) 0 (Int.le_refl _) with ⟨h1, h2⟩ | ⟨j, h1, h2, h3, h4⟩
  · unfold freeI; rw [h1]; exact scanD_none _ _ _ _ (fun i hi => h2 _ (rd_mem _ i hi))
  · unfold freeI; rw [h2, scanD_at _ _ j h3 h4 _ _ h1]; omega
theorem r14_l1 (row : List Int) (hnd : row.Nodup) (hrow : row.length ≤ 16383) (l : List S35) (hr : ∀ x ∈ row, 0 ≤ x ∧ x < l.length) (r c cu a : Int) (lo ins : Bool) (f : Nat) (hf : f < row.length) : ∀ (d i K : Nat) (L : List S35), i + d = f + 1 → 1 ≤ i → L.length = l.length → d < K →
    ∃ F K', K ≤ K' + d + 1 ∧ shutterref14_Type.l1 K a cu row f i r c l cu lo ins r c L cu lo ins = shutterref14_Type.j3 K' a cu r c l cu lo ins r c F cu lo ins ∧ F.length = l.length ∧
      (∀ t : Nat, i ≤ t → t ≤ f → rd_T35 F (rd row (t : Int)) = ⟨(rd_T35 L (rd row (t : Int))).f0, (rd_T35 L (rd row (t : Int))).f1, (rd_T35 l (rd row ((t - 1 : Nat) : Int))).f2⟩) ∧
      (∀ y : Int, 0 ≤ y → (∀ t : Nat, i ≤ t → t ≤ f → rd row (t : Int) ≠ y) → rd_T35 F y = rd_T35 L y)
  | 0, i, K, L, hd, hi, hL, hk => by
    obtain ⟨K, rfl⟩ : ∃ m, K = m + 1 := ⟨K - 1, by omega⟩
    rw [shutterref14_Type.l1, if_neg (by omega)]
    exact ⟨L, K, by omega, rfl, hL, fun t h1 h2 => by omega, fun y _ _ => rfl⟩
  | d + 1, i, K, L, hd, hi, hL, hk => by
    obtain ⟨K, rfl⟩ : ∃ m, K = m + 1 := ⟨K - 1, by omega⟩
    have h1 := hr _ (rd_mem row i (by omega))
    have h0 := hr _ (rd_mem row (i - 1) (by omega))
    have e : wrap64 ((i : Int) - 1) = ((i - 1 : Nat) : Int) := by rw [w64 (by omega)]; omega
    have e2 : wrap64 ((i : Int) + 1) = ((i + 1 : Nat) : Int) := by rw [w64 (by omega)]; omega
    have heq : shutterref14_Type.l1 (K + 1) a cu row f i r c l cu lo ins r c L cu lo ins = shutterref14_Type.l1 K a cu row f ((i + 1 : Nat) : Int) r c l cu lo ins r c (L.set (rd row (i : Int)).toNat (⟨(rd_T35 L (rd row (i : Int))).f0, ⟨(rd_T35 L (rd row (i : Int))).f1.f0, (rd_T35 L (rd row (i : Int))).f1.f1, (rd_T35 L (rd row (i : Int))).f1.f2, (rd_T35 L (rd row (i : Int))).f1.f3⟩, (rd_T35 l (rd row ((i - 1 : Nat) : Int))).f2⟩ : S35)) cu lo ins := by
      rw [shutterref14_Type.l1, e, e2]
      clear e e2
      exact pos_ (by omega) (pos_ (by omega) (pos_ (by omega) (pos_ (by omega) (pos_ (by omega) (pos_ h0.1 (pos_ h0.2 (pos_ h1.1 (pos_ (by omega) rfl))))))))
    rw [heq]
    clear heq e e2
    generalize hv : (⟨(rd_T35 L (rd row (i : Int))).f0, ⟨(rd_T35 L (rd row (i : Int))).f1.f0, (rd_T35 L (rd row (i : Int))).f1.f1, (rd_T35 L (rd row (i : Int))).f1.f2, (rd_T35 L (rd row (i : Int))).f1.f3⟩, (rd_T35 l (rd row ((i - 1 : Nat) : Int))).f2⟩ : S35) = v
    obtain ⟨F, K', hK, hF, hl, ht, hy⟩ := r14_l1 row hnd hrow l hr r c cu a lo ins f hf d (i + 1) K (L.set (rd row (i : Int)).toNat v) (by omega) (by omega) (by rw [List.length_set]; exact hL) (by omega)
    have hs := fun y (y0 : 0 ≤ y) => rd_set L (rd row (i : Int)) y v h1.1 (by omega) y0
    refine ⟨F, K', by omega, hF, hl, fun t t1 t2 => ?_, fun y y0 hny => ?_⟩
    · by_cases et : t = i
      · subst et
        rw [hy _ h1.1 (fun s s1 s2 he => by have := rd_inj hnd (by omega) (by omega) he; omega), hs _ h1.1, if_pos rfl, ← hv]
      · rw [ht t (by omega) t2, hs _ (hr _ (rd_mem row t (by omega))).1, if_neg (fun he => by have := rd_inj hnd (by omega) (by omega) he; omega)]
    · rw [hy y y0 (fun s s1 s2 => hny s (by omega) s2), hs y y0, if_neg (hny i (Nat.le_refl _) (by omega))]
theorem r14_j3 (K : Nat) (r c : Int) (l L : List S35) (cu a : Int) (lo ins : Bool) (hn : l.length ≤ 16383) (hL : L.length = l.length) (c0 : 0 ≤ cu) (c1 : cu < l.length) (hC : (rd_T35 L cu).f0 = false ∧ (rd_T35 L cu).f1 = ⟨false, false, 0, false⟩) (hk : l.length + 4 < K) :
    shutterref14_Type.j3 K a cu r c l cu lo ins r c L cu lo ins = some (r, c, L.set cu.toNat (newC a), onwardI (L.set cu.toNat (newC a)) cu, lo, ins, 0, -1) := by
  obtain ⟨K, rfl⟩ : ∃ m, K = m + 1 := ⟨K - 1, by omega⟩
  have o0 := onI_nonneg (n := l.length) (by omega) cu 1
  have o1 := onI_lt (n := l.length) (by omega) cu 1
  have hM : (L.set cu.toNat (newC a)).length = l.length := by rw [List.length_set, hL]
  have ev : (⟨(rd_T35 L cu).f0, ⟨(rd_T35 L cu).f1.f0, (rd_T35 L cu).f1.f1, (rd_T35 L cu).f1.f2, (rd_T35 L cu).f1.f3⟩, a⟩ : S35) = newC a := by rw [hC.1, hC.2]; rfl
  rw [shutterref14_Type.j3, if_pos c0, if_pos (by omega), Option.bind_some, rNx_eq r c l cu lo ins cu hn c0 c1, Option.bind_some, if_pos o0, if_pos (by omega), ev]
  generalize hMM : L.set (cu : Int).toNat (newC a) = M at hM ⊢
  have hj4 : ∀ K b, l.length + 2 < K → shutterref14_Type.j4 (K + 1) (onI l.length cu 1) (-1) b r c l cu lo ins r c M cu lo ins = some (r, c, M, if b = true ∧ 0 ≤ nextI M (onI l.length cu 1) then nextI M (onI l.length cu 1) else onI l.length (onI l.length cu 1) 1, lo, ins, 0, -1) := by
    intro K b hK
    rw [shutterref14_Type.j4]
    cases b with
    | false => rw [if_neg (by decide), if_pos (by decide), if_neg (fun h => by cases h.1), rNx_eq r c l cu lo ins _ hn o0 o1, Option.bind_some]
    | true =>
      rw [if_pos rfl, rNext_eq K r c M cu lo ins _ (by omega) o0 (by omega) (by omega), Option.bind_some]
      by_cases hx : nextI M (onI l.length cu 1) < 0
      · rw [if_pos hx, if_neg (fun h => by omega), rNx_eq r c l cu lo ins _ hn o0 o1, Option.bind_some]
      · rw [if_neg hx, if_pos ⟨rfl, by omega⟩]
  obtain ⟨K, rfl⟩ : ∃ m, K = m + 1 := ⟨K - 1, by omega⟩
  unfold onwardI isF protI numI
  rw [hM]
  by_cases hF : (rd_T35 M (onI l.length cu 1)).f0 = true
  · rw [if_pos hF, if_pos hF]
    by_cases hP : (rd_T35 M (onI l.length cu 1)).f1.f0 = true
    · rw [if_pos hP, hj4 K _ (by omega)]
      by_cases hN : (rd_T35 M (onI l.length cu 1)).f1.f1 = true
      · by_cases hx : 0 ≤ nextI M (onI l.length cu 1)
        · rw [if_pos ⟨hN, hx⟩, if_pos ⟨hP, hN, hx⟩]
        · rw [if_neg (fun h => hx h.2), if_neg (fun h => hx h.2.2)]
      · rw [if_neg (fun h => hN h.1), if_neg (fun h => hN h.2.1)]
    · rw [if_neg hP, hj4 K _ (by omega), if_neg (fun h => by cases h.1), if_neg (fun h => hP h.1)]
  · rw [if_neg hF, if_neg hF]
def typeR (r c : Int) (l : List S35) (cu : Int) (lo ins : Bool) (a : Int) : Int × Int × List S35 × Int × Bool × Bool × Int × Int :=
  if whyI l cu lo ins a = 0 then (r, c, outI l cu ins a, onwardI (outI l cu ins a) cu, lo, ins, 0, -1)
  else if whyI l cu lo ins a = 3 ∨ whyI l cu lo ins a = 7 then (r, c, l, cu, lo, ins, whyI l cu lo ins a, -1)
  else (r, c, l, cu, true, ins, whyI l cu lo ins a, cu)
theorem r14_l0 (row : List Int) (hrow : row.length ≤ 16383) (l : List S35) (hn : l.length ≤ 16383) (hr : ∀ x ∈ row, 0 ≤ x ∧ x < l.length) (r c cu a : Int) (lo ins : Bool) (L : List S35) (B : Nat) (res : Int × Int × List S35 × Int × Bool × Bool × Int × Int) (fr : Int)
    (hres : ∀ K, B < K → 0 ≤ fr → shutterref14_Type.l1 K a cu row fr 1 r c l cu lo ins r c L cu lo ins = some res) : ∀ (m K : Nat) (g : Int), m ≤ row.length → m + B + 1 < K → scanD (emptyC l) row m g = fr →
    shutterref14_Type.l0 K a cu row g ((m : Int) - 1) r c l cu lo ins r c L cu lo ins = if fr < 0 then some (r, c, l, cu, true, ins, 10, cu) else some res
  | 0, K, g, hm, hk, hs => by
    obtain ⟨K, rfl⟩ : ∃ z, K = z + 1 := ⟨K - 1, by omega⟩
    rw [shutterref14_Type.l0, if_neg (by omega)]
    have hs' : g = fr := hs
    subst hs'
    by_cases h : g < 0
    · rw [if_pos h, if_pos h, rDeny_eq r c l cu lo ins hn, Option.bind_some]
    · rw [if_neg h, if_neg h]; exact hres K (by omega) (by omega)
  | m + 1, K, g, hm, hk, hs => by
    obtain ⟨K, rfl⟩ : ∃ z, K = z + 1 := ⟨K - 1, by omega⟩
    have h1 := hr _ (rd_mem row m (by omega))
    have e : ((m + 1 : Nat) : Int) - 1 = (m : Int) := by omega
    rw [e, shutterref14_Type.l0, if_pos (by omega), if_pos (by omega), if_pos (by omega), if_pos h1.1, if_pos h1.2, w64 (by omega)]
    unfold scanD at hs
    have ec : emptyC l (rd row (m : Int)) = ((rd_T35 l (rd row (m : Int))).f2 == 0) := rfl
    rw [ec] at hs
    by_cases hz : (rd_T35 l (rd row (m : Int))).f2 = 0
    · rw [if_pos hz]
      rw [if_pos (by simpa using hz)] at hs
      exact r14_l0 row hrow l hn hr r c cu a lo ins L B res fr hres m K _ (by omega) (by omega) hs
    · rw [if_neg hz]
      rw [if_neg (by simpa using hz)] at hs
      exact r14_l0 row hrow l hn hr r c cu a lo ins L B res fr hres m K _ (by omega) (by omega) hs
theorem rType_eq (K : Nat) (r c : Int) (l : List S35) (cu : Int) (lo ins : Bool) (a : Int) (h : RightI r c l cu) (a0 : 0 ≤ a) (a1 : a ≤ 255) (hk : l.length + l.length + l.length + 20 < K) : shutterref14_Type.f K r c l cu lo ins a = some (typeR r c l cu lo ins a) := by
  have hn : l.length ≤ 16383 := by have := h.len; have := h.rc; omega
  have c0 := h.cu0
  have c1 := h.cu1
  have hp : 0 < l.length := by omega
  unfold shutterref14_Type.f
  rw [rLetter_eq a a0 a1, Option.bind_some]
  cases hL : letterI a with
  | false => rw [if_neg (by decide)]; unfold typeR whyI; rw [hL]; rfl
  | true =>
    rw [if_pos rfl]
    cases lo with
    | true => rw [if_pos rfl]; unfold typeR whyI; rw [hL]; rfl
    | false =>
      rw [if_neg (by decide), rOpen_eq K r c l cu false ins cu hn c0 c1 (by omega), Option.bind_some]
      cases ho : openI l cu with
      | false => rw [if_neg (by decide), rDeny_eq r c l cu false ins hn, Option.bind_some]; unfold typeR whyI; rw [hL, ho]; rfl
      | true =>
        rw [if_pos rfl, rOf_eq K r c l cu false ins cu hn c0 c1 (by omega), Option.bind_some, ← digit_same, digit_eq, Option.bind_some]
        simp only
        obtain ⟨hnd, hr, hlen, hhead⟩ := row_open c0 c1 ho
        have hr' : ∀ x ∈ rowI l cu, 0 ≤ x ∧ x < l.length := fun x hx => ⟨(hr x hx).1, (hr x hx).2.1⟩
        have hrl := row_len l cu
        have hpc := plain_cell h.ok cu c0 c1 (open_isF ho)
        have hmc := modI_rd l cu hp cu c0 (open_isF ho)
        have hj0 : ∀ K b, l.length + l.length + l.length + 15 < K → shutterref14_Type.j0 (K + 1) a cu b r c l cu false ins = if b = true then some (r, c, l, cu, true, ins, 9, cu) else if ins = true ∧ freeI l cu < 0 then some (r, c, l, cu, true, ins, 10, cu) else some (r, c, outI l cu ins a, onwardI (outI l cu ins a) cu, false, ins, 0, -1) := by
          intro K b hK
          rw [shutterref14_Type.j0]
          cases b with
          | true => rw [if_pos rfl, if_pos rfl, rDeny_eq r c l cu false ins hn, Option.bind_some]
          | false =>
            rw [if_neg (by decide), if_neg (by decide), rModify_eq K r c l cu false ins cu hn c0 c1 (by omega), Option.bind_some]
            simp only
            cases ins with
            | false =>
              rw [if_neg (by decide), if_neg (fun h => by cases h.1), r14_j3 K r c l (modI l cu) cu a false false hn (modI_length l cu) c0 c1 (by rw [hmc, hpc]; exact ⟨rfl, rfl⟩) (by omega)]
              unfold outI pushI; rw [if_neg (by decide)]
            | true =>
              rw [if_pos rfl, rLine_eq K r c l cu false true cu hn c0 c1 (by omega), Option.bind_some, w64 (by omega)]
              have hsc := scan_free l cu
              by_cases hf : freeI l cu < 0
              · rw [r14_l0 (rowI l cu) (by omega) l hn hr' r c cu a false true (modI l cu) 0 (r, c, l, cu, true, true, 10, cu) (freeI l cu) (fun K _ h0 => by omega) (rowI l cu).length K (-1) (Nat.le_refl _) (by omega) hsc, if_pos hf, if_pos ⟨rfl, hf⟩]
              · rcases free_range l cu with hf1 | ⟨j, hj, hfj, _, _⟩
                · omega
                · have hres : ∀ K, l.length + l.length + 10 < K → 0 ≤ freeI l cu → shutterref14_Type.l1 K a cu (rowI l cu) (freeI l cu) 1 r c l cu false true r c (modI l cu) cu false true = some (r, c, outI l cu true a, onwardI (outI l cu true a) cu, false, true, 0, -1) := by
                    intro K hK _
                    obtain ⟨F, K', hK', hF, hFl, ht, hy⟩ := r14_l1 (rowI l cu) hnd (by omega) l hr' r c cu a false true j hj j 1 K (modI l cu) (by omega) (Nat.le_refl _) (modI_length l cu) (by omega)
                    have hcu : ∀ t : Nat, 1 ≤ t → t ≤ j → rd (rowI l cu) (t : Int) ≠ cu := fun t t1 t2 e => by
                      have e' : rd (rowI l cu) (t : Int) = rd (rowI l cu) ((0 : Nat) : Int) := by rw [e]; exact hhead.symm
                      have := rd_inj hnd (by omega) hlen e'; omega
                    have hFc : rd_T35 F cu = rd_T35 l cu := (hy cu c0 hcu).trans hmc
                    rw [hfj]
                    rw [show ((1 : Nat) : Int) = 1 from rfl] at hF
                    rw [hF, r14_j3 K' r c l F cu a false true hn hFl c0 c1 (by rw [hFc, hpc]; exact ⟨rfl, rfl⟩) (by omega)]
                    have hsh := shiftD_rd (rowI l cu) hnd l.length hr' j (modI l cu) (modI_length l cu) hj
                    have : F = shiftD (rowI l cu) j (modI l cu) := by
                      refine cells_ext (by rw [hFl, shiftD_length, modI_length]) (fun y y0 y1 => ?_)
                      by_cases hin : ∃ t : Nat, 1 ≤ t ∧ t ≤ j ∧ rd (rowI l cu) (t : Int) = y
                      · obtain ⟨t, t1, t2, rfl⟩ := hin
                        have q1 := hr _ (rd_mem (rowI l cu) t (by omega))
                        have q0 := hr _ (rd_mem (rowI l cu) (t - 1) (by omega))
                        rw [ht t t1 t2, hsh.1 t t1 t2, modI_rd l cu hp _ q1.1 q1.2.2.1, modI_rd l cu hp _ q0.1 q0.2.2.1, plain_cell h.ok _ q1.1 q1.2.1 q1.2.2.1]
                        exact (plain_cell h.ok _ q0.1 q0.2.1 q0.2.2.1).symm
                      · rw [hy y y0 (fun t t1 t2 e => hin ⟨t, t1, t2, e⟩), hsh.2 y y0 (fun t t1 t2 e => hin ⟨t, t1, t2, e⟩)]
                    unfold outI pushI
                    rw [if_pos rfl, hfj, Int.toNat_natCast, this]
                  rw [r14_l0 (rowI l cu) (by omega) l hn hr' r c cu a false true (modI l cu) (l.length + l.length + 10) _ (freeI l cu) hres (rowI l cu).length K (-1) (Nat.le_refl _) (by omega) hsc, if_neg hf, if_neg (fun h => hf h.2)]
        obtain ⟨K, rfl⟩ : ∃ m, K = m + 1 := ⟨K - 1, by omega⟩
        have hfin : ∀ b, (b = true ↔ ((ofI l cu).f1 = true ∧ digitI a = false ∧ a ≠ 28 ∧ a ≠ 30)) → shutterref14_Type.j0 (K + 1) a cu b r c l cu false ins = some (typeR r c l cu false ins a) := by
          intro b hb
          rw [hj0 K b (by omega)]
          unfold typeR whyI
          rw [hL, ho]
          cases b with
          | true => have := hb.1 rfl; simp [this]
          | false =>
            have h9 : ¬ ((ofI l cu).f1 = true ∧ digitI a = false ∧ a ≠ 28 ∧ a ≠ 30) := fun hh => by have := hb.2 hh; cases this
            rw [if_neg (by decide : ¬ (false = true)), if_neg h9]
            by_cases h10 : ins = true ∧ freeI l cu < 0
            · simp [h10]
            · simp only [h10]; simp
        by_cases h1 : (ofI l cu).f1 = true
        · rw [if_pos h1]
          cases hd : digitI a with
          | true => rw [if_pos rfl]; exact hfin false (by simp [hd])
          | false =>
            rw [if_neg (by decide)]
            by_cases h28 : a = 28
            · rw [if_pos h28]; exact hfin false (by simp [h28])
            · rw [if_neg h28]
              by_cases h30 : a = 30
              · exact hfin _ (by simp [h30])
              · exact hfin _ (by simp [h1, hd, h28, h30])
        · rw [if_neg h1]; exact hfin false (by simp [h1])
end Go.Proofs.YtggecanpjkpkiaaDoor.P
