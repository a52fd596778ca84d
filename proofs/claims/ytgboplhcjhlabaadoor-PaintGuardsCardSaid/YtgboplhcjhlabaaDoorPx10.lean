/- pp.py and press2.py (wip/tools) wrote this text. -/
import Derived.Test.YtgboplhcjhlabaaDoorPx0
import Derived.Test.YtgboplhcjhlabaaDoorPxS
import Derived.Test.YtgboplhcjhlabaaDoorPx9
namespace Go.Proofs.YtgboplhcjhlabaaDoor.P
open Go.RowKit Go.Proofs.YtgboplhcjhlabaaDoorW.PrintWords Go.Proofs.YtgboplhcjhlabaaDoorW.PrintLast Go.Proofs.YtgboplhcjhlabaaDoorW.PrintMore
attribute [local go_sem] max2_int min2_int max_two min_two max_three min_three max_four min_four
attribute [local go_sem] Instr.field asAgg
set_option linter.unusedVariables false
set_option linter.unusedSimpArgs false

/-! ### shutterref05_Chars: function 40 -/
def shutterref05_Chars.l0 : Nat → List Int → Int → Option (Bool)
 | 0, _, _ => none
 | k + 1, c, a => if a < (c.length : Int) then (if 0 ≤ a then ((shutterref05_Char.f (rd c a)).bind fun b => (if b = true then (shutterref05_Chars.l0 k c (wrap64 (a + 1))) else (some false))) else (none)) else (some true)
def shutterref05_Chars.f (k : Nat) (l0 : List Int) : Option (Bool) := shutterref05_Chars.l0 k l0 0
theorem shutterref05_Chars.mono_l : ∀ k, (∀ b c, LeO (shutterref05_Chars.l0 k b c) (shutterref05_Chars.l0 (k + 1) b c))
 | 0 => fun _ _ r h => by simp [shutterref05_Chars.l0] at h
 | k + 1 => by
  have a := shutterref05_Chars.mono_l k
  ·intro b c
   unfold shutterref05_Chars.l0
   repeat' first
   | (with_reducible exact a _ _)
   | (with_reducible exact LeO.refl _)
   | (with_reducible exact LeO.none _)
   | (with_reducible refine LeO.ite ?_ ?_)
   | (with_reducible refine LeO.bind ?_ (fun _ => ?_))
   | exact a _ _
   | exact LeO.none _
   | refine LeO.ite ?_ ?_
   | refine LeO.bind ?_ (fun _ => ?_)
theorem shutterref05_Chars.mono : ∀ a0 k, LeO (shutterref05_Chars.f k a0) (shutterref05_Chars.f (k + 1) a0) := by
 intro a0 k
 have a := shutterref05_Chars.mono_l k
 unfold shutterref05_Chars.f
 repeat' first
   | (with_reducible exact a _ _)
   | (with_reducible exact LeO.refl _)
   | (with_reducible exact LeO.none _)
   | (with_reducible refine LeO.ite ?_ ?_)
   | (with_reducible refine LeO.bind ?_ (fun _ => ?_))
   | exact a _ _
   | exact LeO.none _
   | refine LeO.ite ?_ ?_
   | refine LeO.bind ?_ (fun _ => ?_)
set_option maxHeartbeats 8000000 in
set_option maxRecDepth 100000 in
theorem shutterref05_Chars.calls (k : Nat) (q : Option Addr) (c0 : Nat) (l0 : List Int) (r : Bool) (w : World) (hr0 : Kd.C (Kd.int .u8) w q l0.length l0) (o : l0.length ≤ c0) (h : shutterref05_Chars.f k l0 = some r) :
  Calls Tryd.prog 40 #[.slice q l0.length c0] w fun e w' => e = .returned (.bool r) ∧ Drawn0 w w' := by
 have n := Z hr0
 have v := Z o
 clear hr0 o
 have H : (shutterref05_Chars.l0 k l0 0) = some r := h
 clear h
 have H' := Z H
 clear H
 go_enter Tryd.func40, Tryd.ntmps40
 go_wp2
 go_loopg [3] k (fun kq u w' => ∃ (a : Int), u = .int .i64 a ∧ Aside0 (shutterref05_Chars.l0 kq l0 a = some r) ∧ Aside0 (kq ≤ k) ∧ Drawn0 w w')
 case atStart => exact ⟨(0), (dn_), H', ⟨Nat.le_refl _⟩, dr_⟩
 case round =>
  clear H'
  obtain ⟨a, rfl, HA, m, ⟨x, rfl⟩⟩ := hrel
  cases gk with
  | zero => exact absurd HA.out (by simp [shutterref05_Chars.l0])
  | succ k1 =>
   have H := HA.out
   clear HA
   simp only [shutterref05_Chars.l0] at H
   by_cases c2 : a < (l0.length : Int)
   ·rw [if_pos c2] at H
    have p : decide (a < (l0.length : Int)) = true := decide_eq_true c2
    clear c2
    by_cases c3 : 0 ≤ a
    ·rw [if_pos c3] at H
     have t : decide (0 ≤ a) = true := decide_eq_true c3
     clear c3
     replace H := Option.bind_eq_some_iff.mp H
     obtain ⟨i, l, H⟩ := H
     replace H : (if i = true then (shutterref05_Chars.l0 k1 l0 (wrap64 (a + 1))) else (some false)) = some r := H
     have s := Z l
     clear l
     by_cases c5 : i = true
     ·subst c5
      have H1 : (shutterref05_Chars.l0 k1 l0 (wrap64 (a + 1))) = some r := by rw [if_pos rfl] at H; exact H
      clear H
      have H := H1
      clear H1
      have H' := Z H
      clear H
      have b : 0 ≤ (a : Int) := od_
      have c : a < (l0.length : Int) := od_
      obtain ⟨j, d, g⟩ := Kd.at_int n.out a b c
      cases d
      replace b := eq_true b
      replace c := eq_true c
      go_wp2_with (first | ((with_reducible refine gate_callee (f := 41) rfl ?_); refine goesL_ (some 14) rfl rfl Tryd.func41 (by kernel_rfl) rfl #[.int .u8 (rd l0 a)] rfl ag_ ?_; (with_reducible refine (shutterref05_Char.calls (rd l0 a) true _ s.out).mono ?_); rintro e w' ⟨rfl, ⟨nd, rfl⟩⟩; refine ⟨_, rfl, ?_⟩))
      go_roundg k1
      case measure => have := m.out; omega
      case rel => exact ⟨(wrap64 (a + 1)), (dn_), H', ⟨by have := m.out; omega⟩, dr_⟩
     ·replace c5 := Bool.eq_false_iff.mpr c5
      subst c5
      have H1 : (some false) = some r := by rw [if_neg (show ¬ (false = true) by decide)] at H; exact H
      clear H
      have H := H1
      clear H1
      obtain rfl := Option.some.inj H
      have b : 0 ≤ (a : Int) := od_
      have c : a < (l0.length : Int) := od_
      obtain ⟨j, d, g⟩ := Kd.at_int n.out a b c
      cases d
      replace b := eq_true b
      replace c := eq_true c
      go_wp2_with (first | ((with_reducible refine gate_callee (f := 41) rfl ?_); refine goesL_ (some 14) rfl rfl Tryd.func41 (by kernel_rfl) rfl #[.int .u8 (rd l0 a)] rfl ag_ ?_; (with_reducible refine (shutterref05_Char.calls (rd l0 a) false _ s.out).mono ?_); rintro e w' ⟨rfl, ⟨nd, rfl⟩⟩; refine ⟨_, rfl, ?_⟩))
      go_ret
      exact ⟨dn_, dr_⟩
    ·rw [if_neg c3] at H
     exact absurd H (by simp)
   ·rw [if_neg c2] at H
    have p : decide (a < (l0.length : Int)) = false := decide_eq_false c2
    clear c2
    obtain rfl := Option.some.inj H
    go_wp2
    go_ret
    exact ⟨dn_, dr_⟩

end Go.Proofs.YtgboplhcjhlabaaDoor.P
