/-
FieldTabs over plain lists. No Go in it.
-/
import Derived.Test.YtapcfcagjlmgjaaQ11w
import Derived.Test.YtapcfcagjlmgjaaM4
import Derived.Test.YtapcfcagjlmgjaaO0
import Derived.Test.YtapcfcagjlmgjaaPx12
namespace Go.Proofs.Ytapcfcagjlmgjaa.P
open Go.RowKit Go.Proofs.YtapcfcagjlmgjaaW.PrintWords Go.Proofs.YtapcfcagjlmgjaaW.PrintLast
set_option linter.unusedVariables false
set_option linter.unusedSimpArgs false

theorem rd_cons (x : Int) (t : List Int) : rd (x :: t) 0 = x := rfl
theorem FieldTabs_pure (r c : Int) (l : List S39) (cu : Int) (lo ins : Bool) (a : Int) (wl : ∀ x ∈ l, wfC x) (ha0 : 0 ≤ a) (ha1 : a ≤ 65535) : shutterlaw11_FieldTabs.f 1000 r c l cu lo ins a = some true := by
  unfold shutterlaw11_FieldTabs.f
  rw [awake11_eq 1000 (by omega), Option.bind_some, if_pos rfl]
  obtain ⟨b, hb, hi⟩ := rFew_eq 1000 r c l cu lo ins (by omega)
  rw [hb, Option.bind_some]
  cases b with
  | false => rw [if_neg (by decide), Option.bind_some]
  | true =>
    obtain ⟨hl, hr⟩ := hi.1 rfl
    have hp : 0 < l.length := by have := hr.cu0; have := hr.cu1; omega
    obtain ⟨e, k0, k1⟩ := tmod_idx a l.length hp ha0 ha1
    rw [if_pos rfl, if_neg (by omega), e]
    generalize a % (l.length : Int) = i at k0 k1
    rw [fNext_eq r c l cu lo ins i (by omega) k0 k1, Option.bind_some, fPrev_eq r c l cu lo ins i (by omega) k0 k1, Option.bind_some]
    by_cases hn : nextI l i = -1
    · have hq : prevI l i = -1 := (no_ent_prev l i hp).2 ((no_ent_next l i hp).1 hn)
      rw [hn, hq, if_pos (by decide), shutterlaw11_FieldTabs.j0, if_pos rfl, if_pos (by decide)]; rfl
    · have hq : prevI l i ≠ -1 := fun h => hn ((no_ent_next l i hp).2 ((no_ent_prev l i hp).1 h))
      obtain ⟨f, f0, f1, hf, ef⟩ := next_ent l i hp hn
      obtain ⟨g, g0, g1, hg, eg⟩ := prev_ent l i hp hq
      rw [ef, eg]
      have nf0 := onI_nonneg hp f 1
      have nf1 := onI_lt hp f 1
      have ng0 := onI_nonneg hp g 1
      have ng1 := onI_lt hp g 1
      obtain ⟨of, tf, cf⟩ := first_open l f f0 f1 hf
      obtain ⟨og, tg, cg⟩ := first_open l g g0 g1 hg
      obtain ⟨m0, m1, hm⟩ := next_prev l f f0 f1 hf
      rw [if_neg (by omega), decide_eq_false (by omega), shutterlaw11_FieldTabs.j0, if_neg (by decide), fCells_eq r c l cu lo ins _ (by omega) nf0 nf1, Option.bind_some, fCells_eq r c l cu lo ins _ (by omega) ng0 ng1, Option.bind_some,
        fOpen_eq r c l cu lo ins _ (by omega) nf0 nf1, Option.bind_some, of, if_pos rfl, fOpen_eq r c l cu lo ins _ (by omega) ng0 ng1, Option.bind_some, og, if_pos rfl, cf, cg]
      rw [if_neg (by rw [List.length_cons]; omega), if_neg (by rw [List.length_cons]; omega), if_pos (by rw [List.length_cons]; omega), rd_cons, if_pos rfl, if_pos (by rw [List.length_cons]; omega), rd_cons, if_pos rfl,
        fNext_eq r c l cu lo ins _ (by omega) nf0 nf1, Option.bind_some, if_pos m0, fPrev_eq r c l cu lo ins _ (by omega) m0 m1, Option.bind_some, hm]
      simp
end Go.Proofs.Ytapcfcagjlmgjaa.P
