/-
FieldRound over plain lists. No Go in it.
-/
import Derived.Test.YtapcfcagjlmgjaaQ11w
import Derived.Test.YtapcfcagjlmgjaaM4
import Derived.Test.YtapcfcagjlmgjaaO0
import Derived.Test.YtapcfcagjlmgjaaPx14
import Derived.Test.YtapcfcagjlmgjaaPx15
namespace Go.Proofs.Ytapcfcagjlmgjaa.P
open Go.RowKit Go.Proofs.YtapcfcagjlmgjaaW.PrintWords Go.Proofs.YtapcfcagjlmgjaaW.PrintLast
set_option linter.unusedVariables false
set_option linter.unusedSimpArgs false

/-- how many of k places from s on -/
def cntR (q : Nat → Bool) : Nat → Nat → Nat
  | _, 0 => 0
  | s, k + 1 => cntR q s k + (if q (s + k) = true then 1 else 0)
theorem cntR_front (q : Nat → Bool) (s : Nat) : ∀ k, cntR q s (k + 1) = (if q s = true then 1 else 0) + cntR q (s + 1) k
  | 0 => by simp [cntR]
  | k + 1 => by
    rw [cntR, cntR_front q s k, cntR, show s + 1 + k = s + (k + 1) by omega]; omega
theorem cntR_turn (q : Nat → Bool) (n : Nat) (h : ∀ i, q (i + n) = q i) : ∀ s, cntR q s n = cntR q 0 n
  | 0 => rfl
  | s + 1 => by
    have h1 := cntR_front q s n
    rw [cntR, h] at h1
    rw [← cntR_turn q n h s]; omega
theorem cntR_zero (q : Nat → Bool) (s : Nat) : ∀ k, cntR q s k = 0 → ∀ i, i < k → q (s + i) = false
  | 0, _, i, hi => by omega
  | k + 1, h, i, hi => by
    rw [cntR] at h
    by_cases hq : q (s + k) = true
    · rw [if_pos hq] at h; omega
    · rw [if_neg hq] at h
      rcases Nat.lt_or_ge i k with hh | hh
      · exact cntR_zero q s k (by omega) i hh
      · obtain rfl : i = k := by omega
        simpa using hq
theorem cntR_none (q : Nat → Bool) (s : Nat) : ∀ k, (∀ i, i < k → q (s + i) = false) → cntR q s k = 0
  | 0, _ => rfl
  | k + 1, h => by rw [cntR, cntR_none q s k (fun i hi => h i (by omega)), h k (by omega)]; rfl
theorem cntR_le (q : Nat → Bool) (s : Nat) : ∀ k, cntR q s k ≤ k
  | 0 => Nat.le_refl _
  | k + 1 => by have := cntR_le q s k; rw [cntR]; split <;> omega
theorem cntR_mono (q : Nat → Bool) (s k : Nat) : ∀ m, k ≤ m → cntR q s k ≤ cntR q s m
  | 0, h => by obtain rfl : k = 0 := by omega
               exact Nat.le_refl _
  | m + 1, h => by
    by_cases e : k = m + 1
    · rw [e]; exact Nat.le_refl _
    · have := cntR_mono q s k m (by omega); rw [cntR]; omega
theorem cntR_gap (q : Nat → Bool) (s d : Nat) : ∀ m, d ≤ m → (∀ i, d ≤ i → i < m → q (s + i) = false) → cntR q s m = cntR q s d
  | 0, h, _ => by obtain rfl : d = 0 := by omega
                  rfl
  | m + 1, h, hq => by
    by_cases e : d = m + 1
    · rw [e]
    · rw [cntR, hq m (by omega) (by omega)]; have := cntR_gap q s d m (by omega) (fun i a b => hq i a (by omega)); simpa using this

/-- the cells, counted from one on, around -/
def entR (l : List S39) (j : Nat) : Bool := entI l ((j : Int) % (l.length : Int))
theorem entR_turn (l : List S39) (i : Nat) : entR l (i + l.length) = entR l i := by
  unfold entR; rw [Int.natCast_add, Int.add_emod_right]
theorem rNext10_eq (r c : Int) (l : List S39) (cu : Int) (lo ins : Bool) (a : Int) (hn : l.length ≤ 16383) (h0 : 0 ≤ a) (h1 : a < l.length) : shutterref10_Next.f r c l cu lo ins a = some (onI l.length a 1) := by
  unfold shutterref10_Next.f onI
  rw [w64 (by omega)]
  by_cases h : a + 1 = (l.length : Int)
  · rw [if_pos h, h, Int.emod_self]
  · rw [if_neg h, Int.emod_eq_of_lt (by omega) (by omega)]

/-- from the first cell of the open field that begins at place j (counted around): on to the next such place, or once around -/
theorem next_place (l : List S39) (hp : 0 < l.length) (j d : Nat) (hd : 0 < d) (hdn : d ≤ l.length) (hj : entR l j = true) (he : entR l (j + d) = true) (hn : ∀ i, 0 < i → i < d → entR l (j + i) = false) : nextI l (onI l.length ((j : Int) % (l.length : Int)) 1) = onI l.length (((j + d : Nat) : Int) % (l.length : Int)) 1 := by
  have hw : ∀ i, wayI l.length (onI l.length ((j : Int) % (l.length : Int)) 1) 1 i = (((j + (i + 2) : Nat) : Int)) % (l.length : Int) := by
    intro i; unfold wayI onI sgnI
    simp only [show ¬ (1 : Int) < 0 by decide, if_false, Int.one_mul]
    rw [Int.emod_add_emod, show ((j : Int) + 1) % (l.length : Int) + 1 + (i : Int) = ((j : Int) + 1) % (l.length : Int) + (1 + (i : Int)) by omega, Int.emod_add_emod]
    congr 1; omega
  -- the cell behind a field's begin begins none
  have h1 : entR l (j + 1) = false := by
    have := (ent_parts hj).2.2
    unfold entR
    unfold onI at this
    rw [Int.emod_add_emod] at this
    unfold entI
    rw [show ((j + 1 : Nat) : Int) = (j : Int) + 1 by omega, this]; rfl
  have hd2 : 2 ≤ d := by
    rcases Nat.lt_or_ge d 2 with hh | hh
    · exfalso; obtain rfl : d = 1 := by omega
      rw [h1] at he; cases he
    · exact hh
  unfold nextI
  rw [firstI_at l _ (way_nn _ hp _ 1) (d - 2) (by omega) (by rw [hw, show j + (d - 2 + 2) = j + d by omega]; exact he) (fun i hi => by rw [hw]; exact hn (i + 2) (by omega) (by omega)), hw, show j + (d - 2 + 2) = j + d by omega]

/-- the next place, told by a search -/
theorem next_some (q : Nat → Bool) (s : Nat) : ∀ m d, d ≤ m → (∃ e, d ≤ e ∧ e < m ∧ q (s + e) = true ∧ ∀ i, d ≤ i → i < e → q (s + i) = false) ∨ ∀ i, d ≤ i → i < m → q (s + i) = false
  | 0, d, h => .inr fun i a b => by omega
  | m + 1, d, h => by
    by_cases e : d = m + 1
    · exact .inr fun i a b => by omega
    · rcases next_some q s m d (by omega) with ⟨x, a, b, c, f⟩ | hx
      · exact .inl ⟨x, a, by omega, c, f⟩
      · by_cases hq : q (s + m) = true
        · exact .inl ⟨m, by omega, by omega, hq, fun i a b => hx i a b⟩
        · exact .inr fun i a b => by
            rcases Nat.lt_or_ge i m with hh | hh
            · exact hx i a hh
            · obtain rfl : i = m := by omega
              simpa using hq

/-- the cell behind place j -/
def cellR (l : List S39) (j : Nat) : Int := onI l.length ((j : Int) % (l.length : Int)) 1
theorem cellR_eq (l : List S39) (j : Nat) : cellR l j = ((j : Int) + 1) % (l.length : Int) := by unfold cellR onI; rw [Int.emod_add_emod]
theorem cellR_inj (l : List S39) (hp : 0 < l.length) (s d d' : Nat) (hd : d < l.length) (hd' : d' < l.length) (h : cellR l (s + d) = cellR l (s + d')) : d = d' := by
  rw [cellR_eq, cellR_eq] at h
  have h1 := Int.emod_emod_of_dvd (((s + d : Nat) : Int) + 1) (Int.dvd_refl (l.length : Int))
  have e1 := Int.emod_add_mul_ediv (((s + d : Nat) : Int) + 1) (l.length : Int)
  have e2 := Int.emod_add_mul_ediv (((s + d' : Nat) : Int) + 1) (l.length : Int)
  have e3 : ((d : Int) - d') = (l.length : Int) * ((((s + d : Nat) : Int) + 1) / (l.length : Int) - (((s + d' : Nat) : Int) + 1) / (l.length : Int)) := by rw [Int.mul_sub]; omega
  generalize ((((s + d : Nat) : Int) + 1) / (l.length : Int) - (((s + d' : Nat) : Int) + 1) / (l.length : Int)) = z at e3
  rcases Int.lt_trichotomy z 0 with hz | rfl | hz
  · have : (l.length : Int) * z ≤ (l.length : Int) * (-1) := Int.mul_le_mul_of_nonneg_left (by omega) (by omega)
    omega
  · omega
  · have : (l.length : Int) * 1 ≤ (l.length : Int) * z := Int.mul_le_mul_of_nonneg_left (by omega) (by omega)
    omega

theorem rdOf_set (x : List Bool) (i j : Int) (b : Bool) (i0 : 0 ≤ i) (j0 : 0 ≤ j) (i1 : i < x.length) : rdOf false (x.set i.toNat b) j = if i = j then b else rdOf false x j := by
  unfold rdOf
  simp only [List.getD_eq_getElem?_getD]
  by_cases h : i = j
  · subst h; rw [if_pos rfl, List.getElem?_set_self (by omega)]; rfl
  · rw [if_neg h, List.getElem?_set_ne (by omega)]

theorem round_l1 (r c : Int) (l : List S39) (cu : Int) (lo ins : Bool) (hn : l.length ≤ 200) (hp : 0 < l.length) (s : Nat) (hs : entR l s = true) (n : Nat) (hcn : cntR (entR l) s l.length = n) : ∀ (m k t d : Nat) (seen : List Bool), m + t = n → m < k → seen.length = l.length → d ≤ l.length → entR l (s + d) = true → cntR (entR l) s d = t → (∀ x, rdOf false seen x = true → 0 ≤ x → ∃ d', d' < d ∧ x = cellR l (s + d')) → shutterlaw11_FieldRound.l1 k n seen (cellR l (s + d)) (cellR l s) t r c l cu lo ins = some true
  | 0, k, t, d, seen, hm, hk, hl, hd, he, hc, hseen => by
    obtain ⟨k, rfl⟩ : ∃ m, k = m + 1 := ⟨k - 1, by omega⟩
    rw [shutterlaw11_FieldRound.l1, if_neg (by omega)]
    have : d = l.length := by
      rcases Nat.lt_or_ge d l.length with hh | hh
      · exfalso
        have := cntR_mono (entR l) s (d + 1) l.length (by omega)
        rw [cntR, if_pos he] at this; omega
      · omega
    subst this
    have : cellR l (s + l.length) = cellR l s := by rw [cellR_eq, cellR_eq, show (((s + l.length : Nat) : Int) + 1) = ((s : Int) + 1) + (l.length : Int) by omega, Int.add_emod_right]
    rw [this]; simp
  | m + 1, k, t, d, seen, hm, hk, hl, hd, he, hc, hseen => by
    obtain ⟨k, rfl⟩ : ∃ m, k = m + 1 := ⟨k - 1, by omega⟩
    have hd' : d < l.length := by
      rcases Nat.lt_or_ge d l.length with hh | hh
      · exact hh
      · exfalso; obtain rfl : d = l.length := by omega
        omega
    have htd := cntR_le (entR l) s d
    have c0 : 0 ≤ cellR l (s + d) := onI_nonneg hp _ _
    have c1 : cellR l (s + d) < l.length := onI_lt hp _ _
    rw [shutterlaw11_FieldRound.l1, if_pos (by omega), if_neg (by omega), if_pos c0, if_pos (by omega), if_neg (fun h => by
      obtain ⟨d', h1, h2⟩ := hseen _ h c0
      have := cellR_inj l hp s d d' hd' (by omega) h2; omega), fNext_eq r c l cu lo ins _ (by omega) c0 c1, Option.bind_some, w64 (by omega)]
    have hset : ∀ e, d < e → ∀ x, rdOf false (seen.set (cellR l (s + d)).toNat true) x = true → 0 ≤ x → ∃ d', d' < e ∧ x = cellR l (s + d') := by
      intro e hde x hx x0
      rw [rdOf_set seen _ x true c0 x0 (by omega)] at hx
      by_cases hxe : cellR l (s + d) = x
      · exact ⟨d, hde, hxe.symm⟩
      · rw [if_neg hxe] at hx
        obtain ⟨d', h1, h2⟩ := hseen x hx x0
        exact ⟨d', by omega, h2⟩
    rcases next_some (entR l) s l.length (d + 1) (by omega) with ⟨e, a1, a2, a3, a4⟩ | hx
    · -- there is one before one has come round
      have hnx : nextI l (cellR l (s + d)) = cellR l (s + e) := by
        have := next_place l hp (s + d) (e - d) (by omega) (by omega) he (by rw [show s + d + (e - d) = s + e by omega]; exact a3) (fun i b1 b2 => by rw [show s + d + i = s + (d + i) by omega]; exact a4 (d + i) (by omega) (by omega))
        rw [show s + d + (e - d) = s + e by omega] at this
        exact this
      rw [hnx]
      exact round_l1 r c l cu lo ins hn hp s hs n hcn m k (t + 1) e _ (by omega) (by omega) (by rw [List.length_set]; exact hl) (by omega) a3 (by
        rw [cntR_gap (entR l) s (d + 1) e a1 a4, cntR, if_pos he, hc]) (hset e (by omega))
    · have hnx : nextI l (cellR l (s + d)) = cellR l (s + l.length) := by
        have := next_place l hp (s + d) (l.length - d) (by omega) (by omega) he (by rw [show s + d + (l.length - d) = s + l.length by omega, entR_turn]; exact hs) (fun i b1 b2 => by rw [show s + d + i = s + (d + i) by omega]; exact hx (d + i) (by omega) (by omega))
        rw [show s + d + (l.length - d) = s + l.length by omega] at this
        exact this
      rw [hnx]
      have hg := cntR_gap (entR l) s (d + 1) l.length (by omega) hx
      rw [cntR, if_pos he, hc] at hg
      exact round_l1 r c l cu lo ins hn hp s hs n hcn m k (t + 1) l.length _ (by omega) (by omega) (by rw [List.length_set]; exact hl) (Nat.le_refl _) (by rw [entR_turn]; exact hs) hg (hset l.length hd')

theorem round_l0 (r c : Int) (l : List S39) (cu : Int) (lo ins : Bool) (a : Int) (hn : l.length ≤ 200) (hp : 0 < l.length) (a0 : 0 ≤ a) (a1 : a ≤ 65535) : ∀ (m k i t : Nat), m + i = l.length → m + 300 < k → cntR (entR l) 0 i = t → t ≤ i → shutterlaw11_FieldRound.l0 k a t i r c l cu lo ins = some true
  | 0, k, i, t, hm, hk, hc, ht => by
    obtain ⟨k, rfl⟩ : ∃ m, k = m + 1 := ⟨k - 1, by omega⟩
    obtain rfl : i = l.length := by omega
    obtain ⟨e, k0, k1⟩ := tmod_idx a l.length hp a0 a1
    rw [shutterlaw11_FieldRound.l0, if_neg (by omega), if_neg (by omega), e]
    generalize a % (l.length : Int) = j at k0 k1
    have hall : ∀ x : Int, 0 ≤ x → x < l.length → entR l x.toNat = entI l x := fun x x0 x1 => by
      unfold entR; rw [Int.toNat_of_nonneg x0, Int.emod_eq_of_lt x0 x1]
    by_cases ht0 : t = 0
    · rw [if_pos (by omega), fNext_eq r c l cu lo ins j (by omega) k0 k1, Option.bind_some]
      have hno : ∀ x : Int, 0 ≤ x → x < l.length → entI l x = false := fun x x0 x1 => by
        rw [← hall x x0 x1]
        have := cntR_zero (entR l) 0 l.length (by omega) x.toNat (by omega)
        rwa [Nat.zero_add] at this
      rw [if_pos ((no_ent_next l j hp).2 hno), fPrev_eq r c l cu lo ins j (by omega) k0 k1, Option.bind_some, (no_ent_prev l j hp).2 hno]; rfl
    · have hne : nextI l j ≠ -1 := fun hh => ht0 (by
        rw [← hc]
        refine cntR_none _ _ _ (fun i hi => ?_)
        have := (no_ent_next l j hp).1 hh ((i : Nat) : Int) (by omega) (by omega)
        rw [← hall _ (by omega) (by omega), Int.toNat_natCast] at this
        rwa [Nat.zero_add])
      obtain ⟨f, f0, f1, hf, ef⟩ := next_ent l j hp hne
      have hff : entR l f.toNat = true := by rw [hall f f0 f1]; exact hf
      have hcell : onI l.length f 1 = cellR l f.toNat := by unfold cellR; rw [Int.toNat_of_nonneg f0, Int.emod_eq_of_lt f0 f1]
      rw [if_neg (by omega), if_pos (by omega), if_pos (by omega), fNext_eq r c l cu lo ins j (by omega) k0 k1, Option.bind_some, ef, hcell, Int.toNat_natCast]
      have := round_l1 r c l cu lo ins hn hp f.toNat hff t (by rw [cntR_turn (entR l) l.length (entR_turn l)]; exact hc) t k 0 0 (List.replicate l.length false) (by omega) (by omega) (by simp) (by omega) (by simpa using hff) rfl (fun x hx x0 => by
        exfalso
        unfold rdOf at hx
        rw [List.getD_eq_getElem?_getD, List.getElem?_replicate] at hx
        split at hx <;> cases hx)
      exact this
  | m + 1, k, i, t, hm, hk, hc, ht => by
    obtain ⟨k, rfl⟩ : ∃ m, k = m + 1 := ⟨k - 1, by omega⟩
    rw [shutterlaw11_FieldRound.l0, if_pos (by omega), if_pos (by omega), isF_rd]
    have hR : entR l i = entI l i := by unfold entR; rw [Int.emod_eq_of_lt (by omega) (by omega)]
    have hE : entI l i = (isF l i && !(rd_T39 l i).f1.f0 && !isF l (onI l.length i 1)) := rfl
    have hgo : ∀ b, entI l i = b → shutterlaw11_FieldRound.l0 k a ((t + if b = true then 1 else 0 : Nat) : Int) ((i : Int) + 1) r c l cu lo ins = some true := fun b hb => by
      have := round_l0 r c l cu lo ins a hn hp a0 a1 m k (i + 1) (t + if b = true then 1 else 0) (by omega) (by omega) (by rw [cntR, Nat.zero_add, hR, hb, hc]) (by split <;> omega)
      rw [Int.natCast_add] at this
      exact this
    rw [w64 (by omega), w64 (by omega)]
    cases h1 : isF l i
    · rw [if_neg (by decide)]
      have := hgo false (by rw [hE, h1]; rfl)
      exact this
    · rw [if_pos rfl]
      cases h2 : (rd_T39 l i).f1.f0
      · rw [if_neg (by decide), rNext10_eq r c l cu lo ins i (by omega) (by omega) (by omega), Option.bind_some, if_pos (onI_nonneg hp _ _), if_pos (onI_lt hp _ _), isF_rd]
        cases h3 : isF l (onI l.length i 1)
        · rw [if_neg (by decide)]
          have := hgo true (by rw [hE, h1, h2, h3]; rfl)
          exact this
        · rw [if_pos rfl]
          have := hgo false (by rw [hE, h1, h2, h3]; rfl)
          exact this
      · rw [if_pos rfl]
        have := hgo false (by rw [hE, h1, h2]; rfl)
        exact this

theorem FieldRound_pure (r c : Int) (l : List S39) (cu : Int) (lo ins : Bool) (a : Int) (wl : ∀ x ∈ l, wfC x) (ha0 : 0 ≤ a) (ha1 : a ≤ 65535) : shutterlaw11_FieldRound.f 1000 r c l cu lo ins a = some true := by
  unfold shutterlaw11_FieldRound.f
  rw [awake11_eq 1000 (by omega), Option.bind_some, if_pos rfl]
  obtain ⟨b, hb, hi⟩ := rFew_eq 1000 r c l cu lo ins (by omega)
  rw [hb, Option.bind_some]
  cases b with
  | false => rw [if_neg (by decide), Option.bind_some]
  | true =>
    obtain ⟨hl, hr⟩ := hi.1 rfl
    have hp : 0 < l.length := by have := hr.cu0; have := hr.cu1; omega
    rw [if_pos rfl]
    exact round_l0 r c l cu lo ins a hl hp ha0 ha1 l.length 1000 0 0 rfl (by omega) rfl (Nat.le_refl _)
end Go.Proofs.Ytapcfcagjlmgjaa.P
