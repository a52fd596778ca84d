/- pp.py and press2.py (wip/tools) wrote this text. -/
import Derived.Test.YtggecanpjkpkiaaDoorPx0
import Derived.Test.YtggecanpjkpkiaaDoorPxS
namespace Go.Proofs.YtggecanpjkpkiaaDoor.P
open Go.RowKit Go.Proofs.YtggecanpjkpkiaaDoorW.PrintWords Go.Proofs.YtggecanpjkpkiaaDoorW.PrintLast Go.Proofs.YtggecanpjkpkiaaDoorW.PrintMore
attribute [local go_sem] max2_int min2_int max_two min_two max_three min_three max_four min_four
attribute [local go_sem] Instr.field asAgg
set_option linter.unusedVariables false
set_option linter.unusedSimpArgs false

/-! ### shutterref10_Ints: function 35 -/
def shutterref10_Ints.l0 : Nat → List Int → List Int → Int → Option (Bool)
 | 0, _, _, _ => none
 | k + 1, b, c, a => if a < (b.length : Int) then (if 0 ≤ a then (if a < (c.length : Int) then (if (rd b a) = (rd c a) then (shutterref10_Ints.l0 k b c (wrap64 (a + 1))) else (some false)) else (none)) else (none)) else (some true)
def shutterref10_Ints.f (k : Nat) (l0 : List Int) (l1 : List Int) : Option (Bool) := if (l0.length : Int) = (l1.length : Int) then (shutterref10_Ints.l0 k l0 l1 0) else (some false)
theorem shutterref10_Ints.mono_l : ∀ k, (∀ b c d, LeO (shutterref10_Ints.l0 k b c d) (shutterref10_Ints.l0 (k + 1) b c d))
 | 0 => fun _ _ _ r h => by simp [shutterref10_Ints.l0] at h
 | k + 1 => by
  have a := shutterref10_Ints.mono_l k
  ·intro b c d
   unfold shutterref10_Ints.l0
   repeat' first
   | (with_reducible exact a _ _ _)
   | (with_reducible exact LeO.refl _)
   | (with_reducible exact LeO.none _)
   | (with_reducible refine LeO.ite ?_ ?_)
   | (with_reducible refine LeO.bind ?_ (fun _ => ?_))
   | exact a _ _ _
   | exact LeO.none _
   | refine LeO.ite ?_ ?_
   | refine LeO.bind ?_ (fun _ => ?_)
theorem shutterref10_Ints.mono : ∀ a0 a1 k, LeO (shutterref10_Ints.f k a0 a1) (shutterref10_Ints.f (k + 1) a0 a1) := by
 intro a0 a1 k
 have a := shutterref10_Ints.mono_l k
 unfold shutterref10_Ints.f
 repeat' first
   | (with_reducible exact a _ _ _)
   | (with_reducible exact LeO.refl _)
   | (with_reducible exact LeO.none _)
   | (with_reducible refine LeO.ite ?_ ?_)
   | (with_reducible refine LeO.bind ?_ (fun _ => ?_))
   | exact a _ _ _
   | exact LeO.none _
   | refine LeO.ite ?_ ?_
   | refine LeO.bind ?_ (fun _ => ?_)
set_option maxHeartbeats 8000000 in
set_option maxRecDepth 100000 in
theorem shutterref10_Ints.calls (k : Nat) (E : Option Addr) (c0 : Nat) (l0 : List Int) (F : Option Addr) (c1 : Nat) (l1 : List Int) (r : Bool) (w : World) (hr0 : Kd.C (Kd.int .i64) w E l0.length l0) (x : l0.length ≤ c0) (z : Kd.C (Kd.int .i64) w F l1.length l1) (y : l1.length ≤ c1) (h : shutterref10_Ints.f k l0 l1 = some r) :
  Calls Tryd.prog 35 #[.slice E l0.length c0, .slice F l1.length c1] w fun e w' => e = .returned (.bool r) ∧ Drawn0 w w' := by
 have u := Z hr0
 have K := Z x
 clear hr0 x
 have v := Z z
 have L := Z y
 clear z y
 have H : (if (l0.length : Int) = (l1.length : Int) then (shutterref10_Ints.l0 k l0 l1 0) else (some false)) = some r := h
 clear h
 by_cases c3 : (l0.length : Int) = (l1.length : Int)
 ·rw [if_pos c3] at H
  have n : ((l0.length : Int) == (l1.length : Int)) = true := beq_iff_eq.mpr c3
  have o : ((l0.length : Int) != (l1.length : Int)) = false := bne_eq_false_iff_eq.mpr c3
  have p : (l0.length == l1.length) = true := by first | simpa using c3 | (simp at c3 ⊢; omega)
  clear c3
  have H' := Z H
  clear H
  go_enter Tryd.func35, Tryd.ntmps35
  go_wp2
  repeat (go_quiet (fail); try go_wp2)
  go_loopg [5] k (fun kq J w' => ∃ (a : Int), J = .int .i64 a ∧ Aside0 (shutterref10_Ints.l0 kq l0 l1 a = some r) ∧ Aside0 (kq ≤ k) ∧ Drawn0 w w')
  case atStart => exact ⟨(0), (dn_), H', ⟨Nat.le_refl _⟩, dr_⟩
  case round =>
   clear H'
   try clear c1
   try clear p2
   try clear c3
   try clear n
   try clear o
   try clear p
   obtain ⟨a, rfl, HA, t, ⟨M, rfl⟩⟩ := hrel
   cases gk with
   | zero => exact absurd HA.out (by simp [shutterref10_Ints.l0])
   | succ k1 =>
    have H := HA.out
    clear HA
    simp only [shutterref10_Ints.l0] at H
    by_cases c4 : a < (l0.length : Int)
    ·rw [if_pos c4] at H
     have A : decide (a < (l0.length : Int)) = true := decide_eq_true c4
     clear c4
     by_cases c5 : 0 ≤ a
     ·rw [if_pos c5] at H
      have G : decide (0 ≤ a) = true := decide_eq_true c5
      clear c5
      by_cases c6 : a < (l1.length : Int)
      ·rw [if_pos c6] at H
       have I : decide (a < (l1.length : Int)) = true := decide_eq_true c6
       clear c6
       by_cases c7 : (rd l0 a) = (rd l1 a)
       ·rw [if_pos c7] at H
        have B : ((rd l0 a) == (rd l1 a)) = true := beq_iff_eq.mpr c7
        have D : ((rd l0 a) != (rd l1 a)) = false := bne_eq_false_iff_eq.mpr c7
        clear c7
        have H' := Z H
        clear H
        have b : 0 ≤ (a : Int) := od_
        have d : a < (l0.length : Int) := od_
        obtain ⟨q, i, l⟩ := Kd.at_int u.out a b d
        cases i
        replace b := eq_true b
        replace d := eq_true d
        have c : 0 ≤ (a : Int) := od_
        have g : a < (l1.length : Int) := od_
        obtain ⟨s, j, m⟩ := Kd.at_int v.out a c g
        cases j
        replace c := eq_true c
        replace g := eq_true g
        go_wp2
        repeat (go_quiet (fail); try go_wp2)
        go_roundg k1
        case measure => have := t.out; omega
        case rel => exact ⟨(wrap64 (a + 1)), (dn_), H', ⟨by have := t.out; omega⟩, dr_⟩
       ·rw [if_neg c7] at H
        have B : ((rd l0 a) == (rd l1 a)) = false := beq_eq_false_iff_ne.mpr c7
        have D : ((rd l0 a) != (rd l1 a)) = true := bne_iff_ne.mpr c7
        obtain rfl := Option.some.inj H
        have b : 0 ≤ (a : Int) := od_
        have d : a < (l0.length : Int) := od_
        obtain ⟨q, i, l⟩ := Kd.at_int u.out a b d
        cases i
        replace b := eq_true b
        replace d := eq_true d
        have c : 0 ≤ (a : Int) := od_
        have g : a < (l1.length : Int) := od_
        obtain ⟨s, j, m⟩ := Kd.at_int v.out a c g
        cases j
        replace c := eq_true c
        replace g := eq_true g
        go_wp2
        repeat (go_quiet (fail); try go_wp2)
        go_ret
        exact ⟨dn_, dr_⟩
      ·rw [if_neg c6] at H
       exact absurd H (by simp)
     ·rw [if_neg c5] at H
      exact absurd H (by simp)
    ·rw [if_neg c4] at H
     have A : decide (a < (l0.length : Int)) = false := decide_eq_false c4
     clear c4
     obtain rfl := Option.some.inj H
     go_wp2
     repeat (go_quiet (fail); try go_wp2)
     go_ret
     exact ⟨dn_, dr_⟩
 ·rw [if_neg c3] at H
  have n : ((l0.length : Int) == (l1.length : Int)) = false := beq_eq_false_iff_ne.mpr c3
  have o : ((l0.length : Int) != (l1.length : Int)) = true := bne_iff_ne.mpr c3
  have p : (l0.length == l1.length) = false := by first | simpa using c3 | (simp at c3 ⊢; omega)
  obtain rfl := Option.some.inj H
  go_enter Tryd.func35, Tryd.ntmps35
  go_wp2
  repeat (go_quiet (fail); try go_wp2)
  go_ret
  exact ⟨dn_, dr_⟩

end Go.Proofs.YtggecanpjkpkiaaDoor.P
