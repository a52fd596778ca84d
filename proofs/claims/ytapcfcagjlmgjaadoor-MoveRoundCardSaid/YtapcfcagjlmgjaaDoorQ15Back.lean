/-
MoveBack over plain lists. No Go in it.
-/
import Derived.Test.YtapcfcagjlmgjaaDoorQ15w
import Derived.Test.YtapcfcagjlmgjaaDoorO0
import Derived.Test.YtapcfcagjlmgjaaDoorPx15
namespace Go.Proofs.YtapcfcagjlmgjaaDoor.P
open Go.RowKit Go.Proofs.YtapcfcagjlmgjaaDoorW.PrintWords Go.Proofs.YtapcfcagjlmgjaaDoorW.PrintLast
set_option linter.unusedVariables false
set_option linter.unusedSimpArgs false
theorem on_on (n : Nat) (a d e : Int) : onI n (onI n a d) e = onI n a (d + e) := by
  unfold onI
  rw [Int.emod_add_emod]
  congr 1
  omega
theorem on_none (n : Nat) (a : Int) (a0 : 0 ≤ a) (a1 : a < n) : onI n a 0 = a := by
  unfold onI; rw [Int.add_zero]; exact Int.emod_eq_of_lt a0 a1
theorem RightI.at_ {r c : Int} {l : List S44} {cu : Int} (h : RightI r c l cu) (x : Int) (x0 : 0 ≤ x) (x1 : x < l.length) : RightI r c l x := ⟨h.r1, h.c1, h.r2, h.c2, h.rc, h.len, x0, x1, h.ok⟩
theorem err_free (kind : Int) (h2 : 2 ≤ kind) (h9 : kind ≤ 9) : errI false kind = none := by unfold errI; rw [if_neg (by omega), if_neg (by decide)]
theorem fDo_free (k : Nat) (r c : Int) (l : List S44) (cu : Int) (ins : Bool) (kind : Int) (h : RightI r c l cu) (hk : l.length + 3 < k) (h2 : 2 ≤ kind) (h9 : kind ≤ 9) : move_Do.f k r c l cu false ins kind = some (r, c, l, toI c l cu kind, false, ins, none) := by
  rw [fDo_eq k r c l cu false ins kind h hk]
  have he := err_free kind h2 h9
  have hc : curI c l cu false kind = toI c l cu kind := by unfold curI; rw [he]; rfl
  rw [he, hc]
theorem there_back (c : Int) (l : List S44) (cu : Int) (c0 : 0 ≤ cu) (c1 : cu < l.length) (w : Int) (w0 : 0 ≤ w) (w1 : w < 4) : toI c l (toI c l cu (rd [2, 3, 4, 5] w)) (rd [3, 2, 5, 4] w) = cu := by
  have hb : ∀ d e, d + e = 0 → onI l.length (onI l.length cu d) e = cu := fun d e h => by rw [on_on, h, on_none _ _ c0 c1]
  rcases (show w = 0 ∨ w = 1 ∨ w = 2 ∨ w = 3 by omega) with rfl | rfl | rfl | rfl
  · exact hb (-1) 1 (by omega)
  · exact hb 1 (-1) (by omega)
  · exact hb (-c) c (by omega)
  · exact hb c (-c) (by omega)
theorem tabs_back {r c : Int} {l : List S44} {cu : Int} (h : RightI r c l cu) : toI c l (toI c l (toI c l cu 6) 6) 7 = toI c l cu 6 := by
  have hp : 0 < l.length := by have := h.cu0; have := h.cu1; omega
  show zeroI (prevI l (zeroI (nextI l (zeroI (nextI l cu))))) = zeroI (nextI l cu)
  by_cases hn : nextI l cu = -1
  · have hno := (no_ent_next l cu hp).1 hn
    rw [hn, (no_ent_next l _ hp).2 hno, (no_ent_prev l _ hp).2 hno]
  · obtain ⟨e, e0, e1, he, ee⟩ := next_ent l cu hp hn
    obtain ⟨m0, m1, hm⟩ := next_prev l e e0 e1 he
    have n0 := onI_nonneg hp e 1
    have hz : ∀ x : Int, 0 ≤ x → zeroI x = x := fun x hx => by unfold zeroI; rw [if_neg (by omega)]
    rw [ee, hz _ n0, hz _ m0, hm, hz _ n0]
theorem downs_loop (r c : Int) (l : List S44) (cu : Int) (ins : Bool) (h : RightI r c l cu) (hl : l.length ≤ 200) : ∀ (d i K : Nat), (d : Int) + i = r → d + 210 < K →
    shutterlaw15_MoveBack.l0 K i r c l cu false ins r c l (onI l.length cu (i * c)) false ins = some true
  | 0, i, K, hd, hK => by
    obtain ⟨K, rfl⟩ : ∃ z, K = z + 1 := ⟨K - 1, by omega⟩
    have hp : 0 < l.length := by have := h.cu0; have := h.cu1; omega
    have e : onI l.length cu ((i : Int) * c) = cu := by
      rw [show (i : Int) = r by omega, ← h.len]
      unfold onI
      rw [Int.add_emod, Int.emod_self, Int.add_zero, Int.emod_emod_of_dvd _ (Int.dvd_refl _)]
      exact Int.emod_eq_of_lt h.cu0 h.cu1
    obtain ⟨t0, t1⟩ := toI_range h 6
    have h1 := h.at_ _ t0 t1
    obtain ⟨u0, u1⟩ := toI_range h1 6
    have h2 := h.at_ _ u0 u1
    rw [shutterlaw15_MoveBack.l0, if_neg (by omega), fDo_free K r c l cu ins 6 h (by omega) (by omega) (by omega), Option.bind_some]
    simp only
    rw [fDo_free K r c l _ ins 6 h1 (by omega) (by omega) (by omega), Option.bind_some]
    simp only
    rw [fDo_free K r c l _ ins 7 h2 (by omega) (by omega) (by omega), Option.bind_some]
    simp only
    rw [if_pos (by decide), if_pos (by decide), if_pos (by decide), e, rSame_self K r c l cu false ins (by omega) (by omega), Option.bind_some, if_pos rfl, tabs_back h]
    simp
  | d + 1, i, K, hd, hK => by
    obtain ⟨K, rfl⟩ : ∃ z, K = z + 1 := ⟨K - 1, by omega⟩
    have hp : 0 < l.length := by have := h.cu0; have := h.cu1; omega
    have ih := downs_loop r c l cu ins h hl d (i + 1) K (by omega) (by omega)
    have hx := h.at_ (onI l.length cu (i * c)) (onI_nonneg hp _ _) (onI_lt hp _ _)
    have hr2 := h.r2
    rw [shutterlaw15_MoveBack.l0, if_pos (by omega), fDo_free K r c l _ ins 5 hx (by omega) (by omega) (by omega), Option.bind_some]
    simp only
    have e : toI c l (onI l.length cu ((i : Int) * c)) 5 = onI l.length cu (((i + 1 : Nat) : Int) * c) := by
      show onI l.length (onI l.length cu ((i : Int) * c)) c = _
      rw [on_on]
      congr 1
      rw [Int.natCast_add, Int.add_mul]; simp
    rw [e, w64 (by omega), show (i : Int) + 1 = ((i + 1 : Nat) : Int) by omega]
    exact ih
theorem MoveBack_pure (r c : Int) (l : List S44) (cu : Int) (lo ins : Bool) (a : Int) (wl : ∀ x ∈ l, wfC x) (a0 : 0 ≤ a) (a1 : a ≤ 255) : shutterlaw15_MoveBack.f 1000 r c l cu lo ins a = some true := by
  unfold shutterlaw15_MoveBack.f
  rw [awake15_eq 1000 (by omega), Option.bind_some, if_pos rfl]
  obtain ⟨b, hb, hi⟩ := rFew_eq 1000 r c l cu lo ins (by omega)
  rw [hb, Option.bind_some]
  cases b with
  | false => rw [if_neg (by decide), Option.bind_some]
  | true =>
    obtain ⟨hl, hr⟩ := hi.1 rfl
    have hp : 0 < l.length := by have := hr.cu0; have := hr.cu1; omega
    rw [if_pos rfl, Option.bind_some, Int.tmod_eq_emod_of_nonneg a0]
    obtain ⟨w, hw⟩ : ∃ w, w = a % 4 := ⟨_, rfl⟩
    rw [← hw]
    have w0 : 0 ≤ w := by omega
    have w1 : w < 4 := by omega
    have hk : ∀ L : List Int, L = [2, 3, 4, 5] ∨ L = [3, 2, 5, 4] → 2 ≤ rd L w ∧ rd L w ≤ 9 := by
      intro L hL
      rcases (show w = 0 ∨ w = 1 ∨ w = 2 ∨ w = 3 by omega) with h | h | h | h <;> rcases hL with e | e <;> rw [h, e] <;> decide
    obtain ⟨t0, t1⟩ := toI_range hr (rd [2, 3, 4, 5] w)
    rw [if_pos w0, if_pos (show w < (([2, 3, 4, 5] : List Int).length : Int) from w1), Option.bind_some, if_pos (show w < (([3, 2, 5, 4] : List Int).length : Int) from w1),
      fDo_free 1000 r c l cu ins _ hr (by omega) (hk _ (.inl rfl)).1 (hk _ (.inl rfl)).2, Option.bind_some]
    simp only
    rw [fDo_free 1000 r c l _ ins _ (hr.at_ _ t0 t1) (by omega) (hk _ (.inr rfl)).1 (hk _ (.inr rfl)).2, Option.bind_some]
    simp only
    rw [if_pos (by decide), if_pos (by decide), there_back c l cu hr.cu0 hr.cu1 w w0 w1, rSame_self 1000 r c l cu false ins (by omega) (by omega), Option.bind_some, if_pos rfl]
    have rl : r ≤ l.length := by
      rw [hr.len]
      have h1 := hr.c1
      have := Int.mul_le_mul_of_nonneg_left h1 (show (0 : Int) ≤ r by have := hr.r1; omega)
      omega
    have h := downs_loop r c l cu ins hr hl r.toNat 0 1000 (by have := hr.r1; omega) (by omega)
    rw [show (((0 : Nat) : Int) * c) = 0 by simp, on_none _ _ hr.cu0 hr.cu1] at h
    exact h
end Go.Proofs.YtapcfcagjlmgjaaDoor.P
