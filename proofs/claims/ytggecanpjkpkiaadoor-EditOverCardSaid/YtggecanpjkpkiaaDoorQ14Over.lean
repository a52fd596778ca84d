/-
EditOver over plain lists. No Go in it.
-/
import Derived.Test.YtggecanpjkpkiaaDoorQ14s
import Derived.Test.YtggecanpjkpkiaaDoorO0
import Derived.Test.YtggecanpjkpkiaaDoorPx30
namespace Go.Proofs.YtggecanpjkpkiaaDoor.P
open Go.RowKit Go.Proofs.YtggecanpjkpkiaaDoorW.PrintWords Go.Proofs.YtggecanpjkpkiaaDoorW.PrintLast
set_option linter.unusedVariables false
set_option linter.unusedSimpArgs false
theorem over_same (l : List S35) (cu : Int) (lo : Bool) (a d : Int) (c0 : 0 ≤ cu) (c1 : cu < l.length) (ho : openI l cu = true) : SameF l (outI l cu false a) ∧ outI (outI l cu false a) cu false d = outI l cu false d := by
  have hp : 0 < l.length := by omega
  have hF := open_isF ho
  have hm := sameF_mod l cu hp
  have hml := modI_length l cu
  have e : ∀ x, outI l cu false x = (modI l cu).set (cu : Int).toNat (newC x) := fun x => by unfold outI pushI; rw [if_neg (by decide)]
  have hS : SameF l (outI l cu false a) := by rw [e]; exact hm.trans (sameF_set cu c0 (by omega) (by rw [hm.f cu c0]; exact hF) a)
  refine ⟨hS, ?_⟩
  have hl' := hS.len
  have e' : outI (outI l cu false a) cu false d = (modI (outI l cu false a) cu).set (cu : Int).toNat (newC d) := by unfold outI pushI; rw [if_neg (by decide), if_neg (by decide)]
  have hml' := modI_length (outI l cu false a) cu
  have hrd : ∀ y : Int, 0 ≤ y → y ≠ cu → rd_T35 (outI l cu false a) y = rd_T35 (modI l cu) y := fun y y0 hy => by
    rw [e, rd_set _ cu y _ c0 (by omega) y0, if_neg (Ne.symm hy)]
  refine cells_ext (by rw [outI_length, outI_length, outI_length]) (fun y y0 y1 => ?_)
  rw [e', e d, rd_set _ cu y _ c0 (by omega) y0, rd_set _ cu y _ c0 (by omega) y0]
  by_cases hy : cu = y
  · rw [if_pos hy, if_pos hy]
  · rw [if_neg hy, if_neg hy, ← hrd y y0 (Ne.symm hy)]
    rcases begin_range l cu hp with hb | ⟨b0, b1, hbF⟩
    · unfold modI; rw [hS.begin hp, hb, if_neg (by decide)]
    · have hbc : beginI l cu ≠ cu := fun h => by rw [h, hF] at hbF; cases hbF
      have h1 : rd_T35 (outI l cu false a) (beginI l cu) = modC (rd_T35 l (beginI l cu)) := by
        rw [hrd _ b0 hbc]; unfold modI; rw [if_pos b0, rd_set l _ _ _ b0 b1 b0, if_pos rfl]
      unfold modI
      rw [hS.begin hp, if_pos b0, rd_set _ _ y _ b0 (by omega) y0]
      split
      · rename_i h; rw [← h, h1]; rfl
      · rfl
theorem EditOver_pure (r c : Int) (l : List S35) (cu : Int) (lo ins : Bool) (a d : Int) (wl : ∀ x ∈ l, wfC x) (a0 : 0 ≤ a) (a1 : a ≤ 255) (d0 : 0 ≤ d) (d1 : d ≤ 255) : shutterlaw14_EditOver.f 1000 r c l cu lo ins a d = some true := by
  unfold shutterlaw14_EditOver.f
  rw [awake14_eq 1000 (by omega), Option.bind_some, if_pos rfl]
  obtain ⟨t, ht, hi⟩ := rFew_eq 1000 r c l cu lo ins (by omega)
  rw [ht, Option.bind_some]
  cases t with
  | false => rw [if_neg (by decide), Option.bind_some]
  | true =>
    obtain ⟨hl, hr⟩ := hi.1 rfl
    have hp : 0 < l.length := by have := hr.cu0; have := hr.cu1; omega
    rw [if_pos rfl, fType_eq 1000 r c l cu lo false a (by omega) hr.cu0 hr.cu1 a0 a1 (by omega), Option.bind_some, fType_eq 1000 r c l cu lo false d (by omega) hr.cu0 hr.cu1 d0 d1 (by omega), Option.bind_some]
    by_cases ha : whyI l cu lo false a = 0
    · by_cases hd : whyI l cu lo false d = 0
      · rw [typeF_ok ha, typeF_ok hd]
        simp only [Option.isNone_none, if_true]
        obtain ⟨_, _, ho, _, _⟩ := why_zero ha
        obtain ⟨hLd, hlo, _, hnd, _⟩ := why_zero hd
        obtain ⟨hS, hE⟩ := over_same l cu lo a d hr.cu0 hr.cu1 ho
        have hl' := hS.len
        have hw : whyI (outI l cu false a) cu lo false d = 0 := by
          unfold whyI
          rw [hLd, hlo, hS.open hp cu hr.cu0, ho, hS.of1 hp, if_neg (by decide), if_neg (by decide), if_neg (by decide), if_neg hnd, if_neg (fun h => by cases h.1)]
        have hod := outI_length l cu false d
        rw [shutterlaw14_EditOver.j0, if_neg (by decide), fType_eq 999 r c (outI l cu false a) cu lo false d (by omega) hr.cu0 (by have := hr.cu1; omega) d0 d1 (by omega), Option.bind_some, typeF_ok hw]
        simp only [Option.isNone_none, if_true]
        rw [hE, rSame_self 999 r c _ _ lo false (by omega) (by omega), Option.bind_some]
      · rw [typeF_ok ha, typeF_err hd]
        simp only [Option.isNone_none, if_true]
        rw [if_neg (by decide), shutterlaw14_EditOver.j0, if_pos rfl]
    · rw [typeF_err ha, if_neg (by decide), shutterlaw14_EditOver.j0, if_pos rfl]
end Go.Proofs.YtggecanpjkpkiaaDoor.P
