/-
MoveAlone over plain lists. No Go in it.
-/
import Derived.Test.YtapcfcagjlmgjaaDoorQ15w
import Derived.Test.YtapcfcagjlmgjaaDoorO0
import Derived.Test.YtapcfcagjlmgjaaDoorPx14
namespace Go.Proofs.YtapcfcagjlmgjaaDoor.P
open Go.RowKit Go.Proofs.YtapcfcagjlmgjaaDoorW.PrintWords Go.Proofs.YtapcfcagjlmgjaaDoorW.PrintLast
set_option linter.unusedVariables false
set_option linter.unusedSimpArgs false
theorem RightI.moved {r c : Int} {l : List S44} {cu : Int} (h : RightI r c l cu) (x : Int) (x0 : 0 ≤ x) (x1 : x < l.length) : RightI r c l x := ⟨h.r1, h.c1, h.r2, h.c2, h.rc, h.len, x0, x1, h.ok⟩
theorem line_open (l : List S44) (s e : Int) (s0 : 0 ≤ s) (s1 : s < l.length) (e0 : 0 ≤ e) (e1 : e < l.length) (h : openI l e = true) : openI l (lineI l s) = true := by
  unfold lineI
  rcases findW_cases (openI l) (fun j => onI l.length s j) l.length 0 with ⟨_, ha⟩ | ⟨j, _, _, hj, _, ej⟩
  · exfalso
    by_cases hh : s ≤ e
    · have h5 : openI l (onI l.length s ((e - s).toNat : Int)) = false := ha (e - s).toNat (by omega) (by omega)
      rw [on_val _ _ _ s0 s1 (by omega), if_pos (by omega), show s + ((e - s).toNat : Int) = e by omega, h] at h5; cases h5
    · have h5 : openI l (onI l.length s ((e - s + l.length).toNat : Int)) = false := ha (e - s + l.length).toNat (by omega) (by omega)
      rw [on_val _ _ _ s0 s1 (by omega), if_neg (by omega), show s + ((e - s + l.length).toNat : Int) - l.length = e by omega, h] at h5; cases h5
  · have := onI_nonneg (n := l.length) (by omega) s (j : Int)
    rw [ej, if_neg (by omega)]; exact hj
theorem toI_open {r c : Int} {l : List S44} {cu : Int} (h : RightI r c l cu) (kind : Int) (hk : 6 ≤ kind) (hn : nextI l 0 ≠ -1) : openI l (toI c l cu kind) = true := by
  have hp : 0 < l.length := by have := h.cu0; have := h.cu1; omega
  obtain ⟨e, e0, e1, he, _⟩ := next_ent l 0 hp hn
  have hno : ¬ ∀ x : Int, 0 ≤ x → x < l.length → entI l x = false := fun hh => by rw [hh e e0 e1] at he; cases he
  have hz : ∀ a, openI l (zeroI (nextI l a)) = true := fun a => by
    obtain ⟨f, f0, f1, hf, ef⟩ := next_ent l a hp (fun hh => hno ((no_ent_next l a hp).1 hh))
    have := onI_nonneg hp f 1
    rw [ef]; unfold zeroI; rw [if_neg (by omega)]; exact first_isopen l f f0 f1 hf
  have hz' : ∀ a, openI l (zeroI (prevI l a)) = true := fun a => by
    obtain ⟨f, f0, f1, hf, ef⟩ := prev_ent l a hp (fun hh => hno ((no_ent_prev l a hp).1 hh))
    have := onI_nonneg hp f 1
    rw [ef]; unfold zeroI; rw [if_neg (by omega)]; exact first_isopen l f f0 f1 hf
  unfold toI
  rw [if_neg (by omega), if_neg (by omega), if_neg (by omega), if_neg (by omega)]
  split
  · exact hz _
  split
  · exact hz' _
  split
  · exact hz _
  · exact line_open l _ (onI l.length e 1) (onI_nonneg hp _ _) (onI_lt hp _ _) (onI_nonneg hp _ _) (onI_lt hp _ _) (first_isopen l e e0 e1 he)
theorem next_cases (l : List S44) (a : Int) (hp : 0 < l.length) : nextI l a = -1 ∨ 0 ≤ nextI l a := by
  by_cases h : nextI l a = -1
  · exact .inl h
  · obtain ⟨e, _, _, _, h⟩ := next_ent l a hp h
    have := onI_nonneg hp e 1
    right; omega
theorem MoveAlone_pure (r c : Int) (l : List S44) (cu : Int) (lo ins : Bool) (a : Int) (wl : ∀ x ∈ l, wfC x) (a0 : 0 ≤ a) (a1 : a ≤ 255) : shutterlaw15_MoveAlone.f 1000 r c l cu lo ins a = some true := by
  unfold shutterlaw15_MoveAlone.f
  rw [awake15_eq 1000 (by omega), Option.bind_some, if_pos rfl]
  obtain ⟨b, hb, hi⟩ := rFew_eq 1000 r c l cu lo ins (by omega)
  rw [hb, Option.bind_some]
  cases b with
  | false => rw [if_neg (by decide), Option.bind_some]
  | true =>
    obtain ⟨hl, hr⟩ := hi.1 rfl
    have hp : 0 < l.length := by have := hr.cu0; have := hr.cu1; omega
    rw [if_pos rfl, Int.tmod_eq_emod_of_nonneg a0, w64 (x := a % 8) (by omega), w64 (x := 2 + a % 8) (by omega)]
    obtain ⟨kd, hkd⟩ : ∃ x, x = 2 + a % 8 := ⟨_, rfl⟩
    have k2 : 2 ≤ kd := by omega
    have k9 : kd ≤ 9 := by omega
    rw [← hkd, fDo_eq 1000 r c l cu lo ins kd hr (by omega), Option.bind_some]
    simp only
    obtain ⟨t0, t1⟩ := toI_range hr kd
    have hcr : 0 ≤ curI c l cu lo kd ∧ curI c l cu lo kd < l.length := by unfold curI; split; exact ⟨t0, t1⟩; exact ⟨hr.cu0, hr.cu1⟩
    obtain ⟨b2, hb2, hi2⟩ := rRight_eq 1000 r c l (curI c l cu lo kd) lo ins (by omega) (by omega)
    obtain rfl : b2 = true := hi2.2 (hr.moved _ hcr.1 hcr.2)
    rw [rSame_self 1000 r c l _ lo ins (by omega) (by omega), Option.bind_some, if_pos rfl, hb2, Option.bind_some, if_pos rfl]
    have he : errI lo kd = if lo = true then some 7 else none := by unfold errI; rw [if_neg (by omega)]
    cases lo with
    | true =>
      rw [if_pos rfl] at he
      rw [he, if_neg (by decide), if_neg (by decide)]
      have hc : curI c l cu true kd = cu := by unfold curI; rw [he]; rfl
      rw [hc, show (cu != cu) = false by simp, shutterlaw15_MoveAlone.j0, if_neg (by decide), if_neg (by decide)]
    | false =>
      rw [if_neg (by decide)] at he
      rw [he, if_pos (by decide), if_neg (by decide)]
      have hc : curI c l cu false kd = toI c l cu kd := by unfold curI; rw [he]; rfl
      rw [hc, shutterlaw15_MoveAlone.j0, if_neg (by decide), if_pos (by decide)]
      by_cases h6 : kd < 6
      · rw [if_pos h6]
      · rw [if_neg h6, rNext_eq 999 r c l cu false ins 0 (by omega) (by omega) (by omega) (by omega), Option.bind_some]
        by_cases hn : nextI l 0 < 0
        · rw [if_pos hn]
        · rw [if_neg hn, rOpen_eq 999 r c l _ false ins _ (by omega) t0 t1 (by omega), Option.bind_some, toI_open hr kd (by omega) (by omega)]
end Go.Proofs.YtapcfcagjlmgjaaDoor.P
