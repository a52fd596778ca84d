/- pp.py and press2.py (wip/tools) wrote this text. -/
import Derived.Test.YtjpedimndkibnaaGreatDoorPx0
import Derived.Test.YtjpedimndkibnaaGreatDoorPxS
import Derived.Test.YtjpedimndkibnaaGreatDoorPxT
namespace Go.Proofs.YtjpedimndkibnaaGreatDoor.P
open Go.RowKit Go.Proofs.YtjpedimndkibnaaGreatDoorW.PrintWords Go.Proofs.YtjpedimndkibnaaGreatDoorW.PrintLast Go.Proofs.YtjpedimndkibnaaGreatDoorW.PrintMore
attribute [local go_sem] max2_int min2_int max_two min_two max_three min_three max_four min_four
attribute [local go_sem] Instr.field asAgg
set_option linter.unusedVariables false
set_option linter.unusedSimpArgs false
set_option maxHeartbeats 8000000
set_option maxRecDepth 100000

/-! ### shutterref05_Bare: function 83 -/
def shutterref05_Bare.f (a0 : Int) : Option (Bool) := if a0 = 109 then (some true) else (if a0 = 108 then (some true) else (if a0 = 110 then (some true) else (some (a0 == 107))))
theorem shutterref05_Bare.calls (a0 : Int) (r : Bool) (w : World) (h : shutterref05_Bare.f a0 = some r) :
  Calls Tryz.prog 83 #[.int .u8 a0] w fun e w' => e = .returned (.bool r) ∧ Drawn0 w w' := by
 unfold shutterref05_Bare.f at h
 have H := h
 clear h
 by_cases c2 : a0 = 109
 ·rw [if_pos c2] at H
  obtain ⟨a, b⟩ := eT_ c2
  clear c2
  obtain rfl := Option.some.inj H
  go_enter Tryz.func83, Tryz.ntmps83
  go_wp2
  go_ret
  exact ⟨dn_, dr_⟩
 rw [if_neg c2] at H
 obtain ⟨a, b⟩ := eF_ c2
 by_cases c3 : a0 = 108
 ·rw [if_pos c3] at H
  obtain ⟨c, d⟩ := eT_ c3
  clear c3
  obtain rfl := Option.some.inj H
  go_enter Tryz.func83, Tryz.ntmps83
  go_wp2
  go_ret
  exact ⟨dn_, dr_⟩
 rw [if_neg c3] at H
 obtain ⟨c, d⟩ := eF_ c3
 by_cases c4 : a0 = 110
 ·rw [if_pos c4] at H
  obtain ⟨g, i⟩ := eT_ c4
  clear c4
  obtain rfl := Option.some.inj H
  go_enter Tryz.func83, Tryz.ntmps83
  go_wp2
  go_ret
  exact ⟨dn_, dr_⟩
 rw [if_neg c4] at H
 obtain ⟨g, i⟩ := eF_ c4
 obtain rfl := Option.some.inj H
 go_enter Tryz.func83, Tryz.ntmps83
 go_wp2
 go_ret
 exact ⟨dn_, dr_⟩

/-! ### shutterref05_Aid: function 42 -/
def shutterref05_Aid.f (a0 : Int) : Option (Bool) := (shutterref05_Bare.f a0).bind fun a => (if a = true then (some true) else (if a0 = 125 then (some true) else (if a0 ≥ 241 then (if a0 ≤ 249 then (some true) else (if a0 ≥ 122 then (some (decide (a0 ≤ 124))) else (some false))) else (if a0 ≥ 122 then (some (decide (a0 ≤ 124))) else (some false)))))
theorem shutterref05_Aid.calls (a0 : Int) (r : Bool) (w : World) (h : shutterref05_Aid.f a0 = some r) :
  Calls Tryz.prog 42 #[.int .u8 a0] w fun e w' => e = .returned (.bool r) ∧ Drawn0 w w' := by
 unfold shutterref05_Aid.f at h
 have H := h
 clear h
 replace H := bn_ H
 obtain ⟨a, b, H⟩ := H
 by_cases c3 : a = true
 ·subst c3
  rw [if_pos rfl] at H
  obtain rfl := Option.some.inj H
  go_enter Tryz.func42, Tryz.ntmps42
  go_wp2_with (first | ((with_reducible refine gF_ 83 rfl ?_); refine gd_ (some 4) Tryz.func83 (shutterref05_Bare.calls a0 true _ b.out) ?_; rintro e w' ⟨rfl, ⟨nd, rfl⟩⟩; refine ⟨_, rfl, ?_⟩))
  go_ret
  exact ⟨dn_, dr_⟩
 replace c3 := Bool.eq_false_iff.mpr c3
 subst c3
 rw [iF_] at H
 by_cases c4 : a0 = 125
 ·rw [if_pos c4] at H
  obtain ⟨d, g⟩ := eT_ c4
  clear c4
  obtain rfl := Option.some.inj H
  go_enter Tryz.func42, Tryz.ntmps42
  go_wp2_with (first | ((with_reducible refine gF_ 83 rfl ?_); refine gd_ (some 4) Tryz.func83 (shutterref05_Bare.calls a0 false _ b.out) ?_; rintro e w' ⟨rfl, ⟨nd, rfl⟩⟩; refine ⟨_, rfl, ?_⟩))
  go_ret
  exact ⟨dn_, dr_⟩
 rw [if_neg c4] at H
 obtain ⟨d, g⟩ := eF_ c4
 by_cases c5 : a0 ≥ 241
 ·rw [if_pos c5] at H
  have i : decide (241 ≤ a0) = true := decide_eq_true c5
  clear c5
  by_cases c6 : a0 ≤ 249
  ·rw [if_pos c6] at H
   have j := decide_eq_true c6
   clear c6
   obtain rfl := Option.some.inj H
   go_enter Tryz.func42, Tryz.ntmps42
   go_wp2_with (first | ((with_reducible refine gF_ 83 rfl ?_); refine gd_ (some 4) Tryz.func83 (shutterref05_Bare.calls a0 false _ b.out) ?_; rintro e w' ⟨rfl, ⟨nd, rfl⟩⟩; refine ⟨_, rfl, ?_⟩))
   go_ret
   exact ⟨dn_, dr_⟩
  rw [if_neg c6] at H
  have j := decide_eq_false c6
  clear c6
  by_cases c7 : a0 ≥ 122
  ·rw [if_pos c7] at H
   have k : decide (122 ≤ a0) = true := decide_eq_true c7
   clear c7
   obtain rfl := Option.some.inj H
   go_enter Tryz.func42, Tryz.ntmps42
   go_wp2_with (first | ((with_reducible refine gF_ 83 rfl ?_); refine gd_ (some 4) Tryz.func83 (shutterref05_Bare.calls a0 false _ b.out) ?_; rintro e w' ⟨rfl, ⟨nd, rfl⟩⟩; refine ⟨_, rfl, ?_⟩))
   go_ret
   exact ⟨dn_, dr_⟩
  rw [if_neg c7] at H
  have k : decide (122 ≤ a0) = false := decide_eq_false c7
  clear c7
  obtain rfl := Option.some.inj H
  go_enter Tryz.func42, Tryz.ntmps42
  go_wp2_with (first | ((with_reducible refine gF_ 83 rfl ?_); refine gd_ (some 4) Tryz.func83 (shutterref05_Bare.calls a0 false _ b.out) ?_; rintro e w' ⟨rfl, ⟨nd, rfl⟩⟩; refine ⟨_, rfl, ?_⟩))
  go_ret
  exact ⟨dn_, dr_⟩
 rw [if_neg c5] at H
 have i : decide (241 ≤ a0) = false := decide_eq_false c5
 clear c5
 by_cases c8 : a0 ≥ 122
 ·rw [if_pos c8] at H
  have l : decide (122 ≤ a0) = true := decide_eq_true c8
  clear c8
  obtain rfl := Option.some.inj H
  go_enter Tryz.func42, Tryz.ntmps42
  go_wp2_with (first | ((with_reducible refine gF_ 83 rfl ?_); refine gd_ (some 4) Tryz.func83 (shutterref05_Bare.calls a0 false _ b.out) ?_; rintro e w' ⟨rfl, ⟨nd, rfl⟩⟩; refine ⟨_, rfl, ?_⟩))
  go_ret
  exact ⟨dn_, dr_⟩
 rw [if_neg c8] at H
 have l : decide (122 ≤ a0) = false := decide_eq_false c8
 clear c8
 obtain rfl := Option.some.inj H
 go_enter Tryz.func42, Tryz.ntmps42
 go_wp2_with (first | ((with_reducible refine gF_ 83 rfl ?_); refine gd_ (some 4) Tryz.func83 (shutterref05_Bare.calls a0 false _ b.out) ?_; rintro e w' ⟨rfl, ⟨nd, rfl⟩⟩; refine ⟨_, rfl, ?_⟩))
 go_ret
 exact ⟨dn_, dr_⟩

end Go.Proofs.YtjpedimndkibnaaGreatDoor.P
