/-
EditInserts over plain lists. No Go in it.
-/
import Derived.Test.YtggecanpjkpkiaaDoorQ14s
import Derived.Test.YtggecanpjkpkiaaDoorO0
import Derived.Test.YtggecanpjkpkiaaDoorPx12
namespace Go.Proofs.YtggecanpjkpkiaaDoor.P
open Go.RowKit Go.Proofs.YtggecanpjkpkiaaDoorW.PrintWords Go.Proofs.YtggecanpjkpkiaaDoorW.PrintLast
set_option linter.unusedVariables false
set_option linter.unusedSimpArgs false
theorem rd_snoc (w : List Int) (x : Int) (m : Nat) (hm : m < w.length + 1) : rd (w ++ [x]) (m : Int) = if m < w.length then rd w (m : Int) else x := by
  rw [rd_nat_int _ m (by simp; omega)]
  by_cases h : m < w.length
  · rw [if_pos h, rd_nat_int w m h, List.getElem_append_left h]
  · rw [if_neg h, List.getElem_append_right (by omega)]; simp
theorem ins_l1 (row w : List Int) (F : List S35) (r c cu : Int) (lo ins : Bool) (hrow : row.length ≤ 16383) (hr : ∀ x ∈ row, 0 ≤ x ∧ x < F.length) (hw : w.length + 1 = row.length) (hc : ∀ m : Nat, m < w.length → (rd_T35 F (rd row ((m + 1 : Nat) : Int))).f2 = rd w (m : Int)) : ∀ (n K i : Nat), i + n = w.length → n < K → shutterlaw14_EditInserts.l1 K row w (i : Int) r c F cu lo ins = some true
  | 0, K, i, hi, hk => by
    obtain ⟨K, rfl⟩ : ∃ m, K = m + 1 := ⟨K - 1, by omega⟩
    rw [shutterlaw14_EditInserts.l1, if_neg (by omega)]
  | n + 1, K, i, hi, hk => by
    obtain ⟨K, rfl⟩ : ∃ m, K = m + 1 := ⟨K - 1, by omega⟩
    have h1 := hr _ (rd_mem row (i + 1) (by omega))
    have e : wrap64 ((i : Int) + 1) = ((i + 1 : Nat) : Int) := by rw [w64 (by omega)]; omega
    rw [shutterlaw14_EditInserts.l1, e]
    clear e
    exact pos_ (by omega) (pos_ (by omega) (pos_ (by omega) (pos_ h1.1 (pos_ h1.2 (pos_ (by omega) (pos_ (hc i (by omega)) (ins_l1 row w F r c cu lo ins hrow hr hw hc n K (i + 1) (by omega) (by omega))))))))
theorem ins_l0 (row : List Int) (l F : List S35) (r c cu a r' c' cu' : Int) (lo ins lo' ins' : Bool) (j : Nat) (hrow : row.length ≤ 16383) (hr : ∀ x ∈ row, 0 ≤ x ∧ x < l.length) (hF : F.length = l.length) (hj : j < row.length) (hje : (rd_T35 l (rd row (j : Int))).f2 = 0) (hjb : ∀ m : Nat, m < j → (rd_T35 l (rd row (m : Int))).f2 ≠ 0) (ha : (rd_T35 F (rd row 0)).f2 = a)
    (hc : ∀ m : Nat, m + 1 < row.length → (rd_T35 F (rd row ((m + 1 : Nat) : Int))).f2 = (rd_T35 l (rd row ((if m < j then m else m + 1 : Nat) : Int))).f2) : ∀ (n K i : Nat) (w : List Int) (g : Bool), i + n = row.length → n + row.length + 1 < K → (w.length = if i ≤ j then i else i - 1) → g = decide (j < i) → (∀ m : Nat, m < w.length → rd w (m : Int) = (rd_T35 l (rd row ((if m < j then m else m + 1 : Nat) : Int))).f2) →
    shutterlaw14_EditInserts.l0 K a row w g (i : Int) r c l cu lo ins r' c' F cu' lo' ins' = some true
  | 0, K, i, w, g, hi, hk, hw, hg, hm => by
    obtain ⟨K, rfl⟩ : ∃ m, K = m + 1 := ⟨K - 1, by omega⟩
    rw [if_neg (by omega)] at hw
    have h0 := hr _ (rd_mem row 0 (by omega))
    have e : wrap64 ((w.length : Int) + 1) = ((w.length + 1 : Nat) : Int) := by rw [w64 (by omega)]; omega
    rw [shutterlaw14_EditInserts.l0, if_neg (by omega), hg, if_pos (by rw [decide_eq_true_iff]; omega), if_neg (by omega), e]
    clear e
    exact pos_ (by omega) (pos_ (by omega) (pos_ h0.1 (pos_ (by rw [hF]; exact h0.2) (pos_ ha (ins_l1 row w F r' c' cu' lo' ins' hrow (by rw [hF]; exact hr) (by omega) (fun m h => by rw [hc m (by omega), hm m h]) w.length K 0 (by omega) (by omega))))))
  | n + 1, K, i, w, g, hi, hk, hw, hg, hm => by
    obtain ⟨K, rfl⟩ : ∃ m, K = m + 1 := ⟨K - 1, by omega⟩
    have h1 := hr _ (rd_mem row i (by omega))
    have hwl : w.length ≤ i := by rw [hw]; split <;> omega
    have e : wrap64 ((i : Int) + 1) = ((i + 1 : Nat) : Int) := by rw [w64 (by omega)]; omega
    have app : i ≠ j → ∀ g', g' = decide (j < i + 1) → shutterlaw14_EditInserts.l0 K a row (w ++ [(rd_T35 l (rd row (i : Int))).f2]) g' ((i + 1 : Nat) : Int) r c l cu lo ins r' c' F cu' lo' ins' = some true := fun hne g' hg' => by
      clear e
      refine ins_l0 row l F r c cu a r' c' cu' lo ins lo' ins' j hrow hr hF hj hje hjb ha hc n K (i + 1) _ g' (by omega) (by omega) ?_ hg' (fun m hm' => ?_)
      · rw [List.length_append, List.length_singleton, hw]; split <;> split <;> omega
      · rw [List.length_append, List.length_singleton] at hm'
        rw [rd_snoc w _ m hm']
        split
        · rename_i h; exact hm m h
        · have hmi : m = w.length := by omega
          have : (if m < j then m else m + 1) = i := by rw [hmi]; split at hw <;> split <;> omega
          rw [this]
    rw [shutterlaw14_EditInserts.l0, e]
    clear e
    refine pos_ (by omega) (pos_ (by omega) (pos_ h1.1 (pos_ h1.2 ?_)))
    by_cases hz : (rd_T35 l (rd row (i : Int))).f2 = 0
    · rw [if_pos hz]
      have hij : j ≤ i := by
        by_cases h : j ≤ i
        · exact h
        · exact absurd hz (hjb i (by omega))
      by_cases hji : j < i
      · rw [if_pos (by rw [hg, decide_eq_true_iff]; exact hji)]
        exact pos_ (by omega) (app (by omega) g (by rw [hg, decide_eq_true hji, decide_eq_true (by omega)]))
      · rw [if_neg (by rw [hg, decide_eq_true_iff]; exact hji)]
        have : i = j := by omega
        subst this
        refine ins_l0 row l F r c cu a r' c' cu' lo ins lo' ins' i hrow hr hF hj hje hjb ha hc n K (i + 1) w true (by omega) (by omega) ?_ (decide_eq_true (by omega)).symm hm
        rw [hw, if_pos (by omega), if_neg (by omega)]; omega
    · rw [if_neg hz]
      have hij : i ≠ j := fun h => hz (by rw [h]; exact hje)
      refine pos_ (by omega) (app hij g ?_)
      rw [hg]; exact decide_eq_decide.2 (by omega)
theorem modI_f2 (l : List S35) (a : Int) (hp : 0 < l.length) (x : Int) (x0 : 0 ≤ x) : (rd_T35 (modI l a) x).f2 = (rd_T35 l x).f2 := by
  unfold modI
  rcases begin_range l a hp with hb | ⟨b0, b1, _⟩
  · rw [hb, if_neg (by decide)]
  · rw [if_pos b0, rd_set l _ x _ b0 b1 x0]
    split
    · rename_i h; subst h; rfl
    · rfl
theorem EditInserts_pure (r c : Int) (l : List S35) (cu : Int) (lo ins : Bool) (a : Int) (wl : ∀ x ∈ l, wfC x) (a0 : 0 ≤ a) (a1 : a ≤ 255) : shutterlaw14_EditInserts.f 1000 r c l cu lo ins a = some true := by
  unfold shutterlaw14_EditInserts.f
  rw [awake14_eq 1000 (by omega), Option.bind_some, if_pos rfl]
  obtain ⟨t, ht, hi⟩ := rFew_eq 1000 r c l cu lo ins (by omega)
  rw [ht, Option.bind_some]
  cases t with
  | false => rw [if_neg (by decide), Option.bind_some]
  | true =>
    obtain ⟨hl, hR⟩ := hi.1 rfl
    have c0 := hR.cu0
    have c1 := hR.cu1
    have hp : 0 < l.length := by omega
    rw [if_pos rfl, fType_eq 1000 r c l cu false true a (by omega) c0 c1 a0 a1 (by omega), Option.bind_some]
    by_cases ha : whyI l cu false true a = 0
    · obtain ⟨_, _, ho, _, hfr⟩ := why_zero ha
      rw [typeF_ok ha]
      simp only [Option.isNone_none, if_true]
      rw [rLine_eq 1000 r c l cu false true cu (by omega) c0 c1 (by omega), Option.bind_some]
      obtain ⟨hnd, hr, hlen, hhead⟩ := row_open c0 c1 ho
      have hr' : ∀ x ∈ rowI l cu, 0 ≤ x ∧ x < l.length := fun x hx => ⟨(hr x hx).1, (hr x hx).2.1⟩
      have hrl := row_len l cu
      rcases free_range l cu with hf | ⟨j, hj, hfj, hje, hjb⟩
      · exact absurd ⟨rfl, by omega⟩ hfr
      · have hml := modI_length l cu
        have hsl := shiftD_length (rowI l cu) j (modI l cu)
        obtain ⟨hs1, hs2⟩ := shiftD_rd (rowI l cu) hnd l.length hr' j (modI l cu) hml hj
        have hout : outI l cu true a = (shiftD (rowI l cu) j (modI l cu)).set (cu : Int).toNat (newC a) := by
          unfold outI pushI; rw [if_pos rfl, hfj]; rfl
        have hrd : ∀ y : Int, 0 ≤ y → rd_T35 (outI l cu true a) y = if cu = y then newC a else rd_T35 (shiftD (rowI l cu) j (modI l cu)) y := fun y y0 => by
          rw [hout, rd_set _ cu y _ c0 (by omega) y0]
        refine ins_l0 (rowI l cu) l (outI l cu true a) r c cu a r c (onwardI (outI l cu true a) cu) false true false true j (by omega) hr' (outI_length l cu true a) hj (by simpa [emptyC] using hje) (fun m hm => by simpa [emptyC] using hjb m hm) ?_ ?_ (rowI l cu).length 1000 0 [] false (by omega) (by omega) ?_ ?_ (fun m hm => by simp at hm)
        · rw [hhead, hrd cu c0, if_pos rfl]; rfl
        · intro m hm
          have hm1 := hr' _ (rd_mem (rowI l cu) (m + 1) hm)
          have hne : ¬ cu = rd (rowI l cu) ((m + 1 : Nat) : Int) := fun e => by
            have e' : rd (rowI l cu) ((m + 1 : Nat) : Int) = rd (rowI l cu) ((0 : Nat) : Int) := by rw [← e]; exact hhead.symm
            have := rd_inj hnd hm hlen e'; omega
          rw [hrd _ hm1.1, if_neg hne]
          by_cases hmj : m < j
          · rw [if_pos hmj, hs1 (m + 1) (by omega) (by omega), Nat.add_sub_cancel, modI_f2 l cu hp _ (hr' _ (rd_mem _ m (by omega))).1]
          · rw [if_neg hmj, hs2 _ hm1.1 (fun t t1 t2 e => by have := rd_inj hnd (by omega) hm e; omega), modI_f2 l cu hp _ hm1.1]
        · rw [if_pos (by omega)]; rfl
        · rw [decide_eq_false (by omega)]
    · rw [typeF_err ha, if_neg (by decide)]
end Go.Proofs.YtggecanpjkpkiaaDoor.P
