/-
MoveRound over plain lists. No Go in it.
-/
import Derived.Test.YtapcfcagjlmgjaaDoorQ15Back
import Derived.Test.YtapcfcagjlmgjaaDoorPx16
namespace Go.Proofs.YtapcfcagjlmgjaaDoor.P
open Go.RowKit Go.Proofs.YtapcfcagjlmgjaaDoorW.PrintWords Go.Proofs.YtapcfcagjlmgjaaDoorW.PrintLast
set_option linter.unusedVariables false
set_option linter.unusedSimpArgs false
/-- where one is behind i moves -/
def stepI (n : Nat) (cu d : Int) (i : Nat) : Int := onI n cu (d * i)
theorem step_val (n : Nat) (cu d : Int) (i : Nat) (c0 : 0 ≤ cu) (c1 : cu < n) (hd : d = 1 ∨ d = -1) (hi : i < n) : stepI n cu d i = if d = 1 then (if cu + i < n then cu + i else cu + i - n) else (if (i : Int) ≤ cu then cu - i else cu - i + n) := by
  unfold stepI
  rcases hd with rfl | rfl
  · rw [Int.one_mul, if_pos rfl]; exact on_val n cu i c0 c1 (by omega)
  · rw [if_neg (by decide), show (-1 : Int) * (i : Int) = -(i : Int) by omega]
    unfold onI
    by_cases h : (i : Int) ≤ cu
    · rw [if_pos h, show cu + -(i : Int) = cu - i by omega]; exact Int.emod_eq_of_lt (by omega) (by omega)
    · rw [if_neg h, show cu + -(i : Int) = cu - i by omega]; exact on_under _ _ (by omega) (by omega)
theorem step_inj (n : Nat) (cu d : Int) (i j : Nat) (c0 : 0 ≤ cu) (c1 : cu < n) (hd : d = 1 ∨ d = -1) (hi : i < n) (hj : j < i) : stepI n cu d i ≠ stepI n cu d j := by
  rw [step_val n cu d i c0 c1 hd hi, step_val n cu d j c0 c1 hd (by omega)]
  split <;> split <;> split <;> omega
theorem step_succ (n : Nat) (cu d : Int) (i : Nat) : onI n (stepI n cu d i) d = stepI n cu d (i + 1) := by
  unfold stepI
  rw [on_on, Int.natCast_add, Int.mul_add]; simp
theorem step_all (n : Nat) (cu d : Int) (c0 : 0 ≤ cu) (c1 : cu < n) : stepI n cu d n = cu := by
  unfold stepI onI
  rw [Int.add_mul_emod_self_right]
  exact Int.emod_eq_of_lt c0 c1
theorem rdOf_set (S : List Bool) (x y : Int) (x0 : 0 ≤ x) (y0 : 0 ≤ y) (h : x ≠ y) : rdOf false (S.set (x : Int).toNat true) y = rdOf false S y := by
  unfold rdOf
  rw [List.getD_eq_getElem?_getD, List.getD_eq_getElem?_getD, List.getElem?_set, if_neg (by omega)]
theorem round_loop (r c : Int) (l : List S44) (cu : Int) (ins : Bool) (kind d : Int) (h : RightI r c l cu) (hl : l.length ≤ 200) (hd : d = 1 ∨ d = -1) (hk2 : 2 ≤ kind) (hk9 : kind ≤ 9) (hto : ∀ x, toI c l x kind = onI l.length x d) : ∀ (m i K : Nat) (S : List Bool), m + i = l.length → m + 210 < K → S.length = l.length → (∀ j, i ≤ j → j < l.length → rdOf false S (stepI l.length cu d j) = false) →
    shutterlaw15_MoveRound.l0 K kind S i r c l cu false ins r c l (stepI l.length cu d i) false ins = some true
  | 0, i, K, S, hm, hK, hS, hq => by
    obtain ⟨K, rfl⟩ : ∃ z, K = z + 1 := ⟨K - 1, by omega⟩
    have hi : i = l.length := by omega
    rw [hi, shutterlaw15_MoveRound.l0, if_neg (by omega), step_all _ _ _ h.cu0 h.cu1, rSame_self K r c l cu false ins (by omega) (by omega), Option.bind_some]
  | m + 1, i, K, S, hm, hK, hS, hq => by
    obtain ⟨K, rfl⟩ : ∃ z, K = z + 1 := ⟨K - 1, by omega⟩
    have hp : 0 < l.length := by omega
    have n0 : 0 ≤ stepI l.length cu d i := onI_nonneg hp _ _
    have n1 : stepI l.length cu d i < l.length := onI_lt hp _ _
    have s0 : 0 ≤ stepI l.length cu d (i + 1) := onI_nonneg hp _ _
    have s1 : stepI l.length cu d (i + 1) < l.length := onI_lt hp _ _
    have ih := round_loop r c l cu ins kind d h hl hd hk2 hk9 hto m (i + 1) K (S.set (stepI l.length cu d i : Int).toNat true) (by omega) (by omega) (by rw [List.length_set]; exact hS) (fun j hj hjl => by
      rw [rdOf_set S _ (stepI l.length cu d j) n0 (onI_nonneg hp _ _) (fun e => step_inj l.length cu d j i h.cu0 h.cu1 hd hjl (by omega) e.symm)]
      exact hq j (by omega) hjl)
    rw [shutterlaw15_MoveRound.l0, if_pos (by omega), if_pos n0, if_pos (by omega), if_neg (by rw [hq i (Nat.le_refl _) (by omega)]; decide), fDo_free K r c l _ ins kind (h.at_ _ n0 n1) (by omega) hk2 hk9, Option.bind_some]
    simp only
    rw [if_pos (by decide), hto, step_succ, if_neg (by omega), if_neg (by omega), w64 (by omega), show (i : Int) + 1 = ((i + 1 : Nat) : Int) by omega]
    exact ih
theorem MoveRound_pure (r c : Int) (l : List S44) (cu : Int) (lo ins : Bool) (left : Bool) (wl : ∀ x ∈ l, wfC x) : shutterlaw15_MoveRound.f 1000 r c l cu lo ins left = some true := by
  unfold shutterlaw15_MoveRound.f
  rw [awake15_eq 1000 (by omega), Option.bind_some, if_pos rfl]
  obtain ⟨b, hb, hi⟩ := rFew_eq 1000 r c l cu lo ins (by omega)
  rw [hb, Option.bind_some]
  cases b with
  | false => rw [if_neg (by decide), Option.bind_some]
  | true =>
    obtain ⟨hl, hr⟩ := hi.1 rfl
    rw [if_pos rfl]
    have hj : ∀ kind d : Int, (d = 1 ∨ d = -1) → 2 ≤ kind → kind ≤ 9 → (∀ x, toI c l x kind = onI l.length x d) → shutterlaw15_MoveRound.j0 1000 kind r c l cu false ins = some true := by
      intro kind d hd h2 h9 hto
      rw [show (1000 : Nat) = 999 + 1 from rfl, shutterlaw15_MoveRound.j0, if_pos (by omega), if_pos (by rw [Int.toNat_natCast]; omega), Int.toNat_natCast]
      have := round_loop r c l cu ins kind d hr hl hd h2 h9 hto l.length 0 999 (List.replicate l.length false) (by omega) (by omega) (by simp) (fun j _ hjl => by
        unfold rdOf; rw [List.getD_eq_getElem?_getD, List.getElem?_replicate]; split <;> rfl)
      have e : stepI l.length cu d 0 = cu := by unfold stepI; rw [show d * ((0 : Nat) : Int) = 0 by simp]; exact on_none _ _ hr.cu0 hr.cu1
      rw [e] at this
      exact this
    cases left with
    | true => rw [if_pos rfl]; exact hj 2 (-1) (.inr rfl) (by omega) (by omega) (fun x => rfl)
    | false => rw [if_neg (by decide)]; exact hj 3 1 (.inl rfl) (by omega) (by omega) (fun x => rfl)
end Go.Proofs.YtapcfcagjlmgjaaDoor.P
