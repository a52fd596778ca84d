/- pp.py and press2.py (wip/tools) wrote this text. -/
import Derived.Test.YtgboplhcjhlabaaDoorPx0
import Derived.Test.YtgboplhcjhlabaaDoorPxS
import Derived.Test.YtgboplhcjhlabaaDoorPx4
namespace Go.Proofs.YtgboplhcjhlabaaDoor.P
open Go.RowKit Go.Proofs.YtgboplhcjhlabaaDoorW.PrintWords Go.Proofs.YtgboplhcjhlabaaDoorW.PrintLast Go.Proofs.YtgboplhcjhlabaaDoorW.PrintMore
attribute [local go_sem] max2_int min2_int max_two min_two max_three min_three max_four min_four
attribute [local go_sem] Instr.field asAgg
set_option linter.unusedVariables false
set_option linter.unusedSimpArgs false

/-! ### api_Code: function 18 -/
section
/-- api.Code: an error's number, a spot's number, or 0. -/
def api_Code.f (a : Option Er) (b : List S184) : Option Int :=
 match a with
 | none => some 0
 | some (.num n) => some n
 | some .spot => match b with | [s] => some s.f1 | _ => none
set_option maxRecDepth 100000 in
set_option maxHeartbeats 4000000 in
theorem api_Code.calls (c : Option Er) (g : Option Addr) (d : Nat) (a : List S184) (r : Int) (w : World) (b : Kd.C k184 w g a.length a) (i : a.length ≤ d) (hG : LaidG w) (h : api_Code.f c a = some r) :
  Calls Tryd.prog 18 #[errW (.slice g a.length d) c] w fun e w' => e = .returned (.int .i64 r) ∧ Below w.heap.size w w' := by
 rcases c with _ | q
 ·obtain rfl := Option.some.inj h
  rw [errW_none]
  clear b h
  go_enter Tryd.func18, Tryd.ntmps18
  go_wp2
  go_ret
  exact ⟨rfl, below_alloc (Below.refl _ _) _⟩
 ·cases q with
  | num n =>
   obtain rfl := Option.some.inj h
   rw [errW_some, show (Er.num n).ty = 75 from rfl, show (Er.num n).pay _ = .int .i64 n from rfl]
   clear b h
   have HA := Z (EA.hit n ⟨w.heap.size, 0, none⟩ (.int .i64 0) (w.alloc (.cells #[.int .i64 0] 75)) (laidG_alloc hG _) (by simp) (by rw [frozen?_alloc_cells]; simp [World.frozen?]))
   go_enter Tryd.func18, Tryd.ntmps18
   go_wp2_with (go_at_call 42; refine HA.out.mono ?_; rintro e w' ⟨rfl, rfl⟩)
   go_ret
   exact ⟨rfl, below_alloc (below_alloc (below_alloc (below_alloc (below_alloc (Below.refl _ _) _) _) _) _) _⟩
  | spot =>
   match a, b, i, h with
   | [s], hr, hc, h =>
    obtain rfl := Option.some.inj h
    obtain ⟨ad, rfl, k, j⟩ := spot_at hr
    rw [errW_some, show Er.spot.ty = 83 from rfl, show Er.spot.pay (.slice (some ad) ([s] : List S184).length d) = .pointer (some ad) from rfl]
    have hlt := bk_ w ⟨ad.block, ad.off + 1, none⟩ j
    have HA := Z (EA.spot ad s.f1 ⟨w.heap.size, 0, none⟩ (.int .i64 0) (w.alloc (.cells #[.int .i64 0] 75)) (by rw [World.cell?_alloc_lt _ _ ⟨ad.block, ad.off + 1, none⟩ hlt]; exact j) (laidG_alloc hG _) (by simp) (by rw [frozen?_alloc_cells]; simp [World.frozen?]))
    clear k j hr hlt h
    go_enter Tryd.func18, Tryd.ntmps18
    go_wp2_with (go_at_call 42; refine HA.out.mono ?_; rintro e w' ⟨rfl, rfl⟩)
    go_ret
    exact ⟨rfl, below_alloc (below_alloc (below_alloc (below_alloc (below_alloc (Below.refl _ _) _) _) _) _) _⟩
end

/-! ### order_has: function 59 -/
def order_has.f (a0 : Int) : Option (Bool × Bool × Bool × Bool) := if a0 = 1 then (some (true, false, false, false)) else (if a0 = 2 then (some (false, true, false, false)) else (if a0 = 6 then (some (false, false, true, true)) else (if a0 = 3 then (some (false, false, true, false)) else (if a0 = 7 then (some (false, false, true, false)) else (some (false, false, false, false))))))
set_option maxHeartbeats 8000000 in
set_option maxRecDepth 100000 in
theorem order_has.calls (a0 : Int) (n : Bool) (o : Bool) (p : Bool) (q : Bool) (w : World) (h : order_has.f a0 = some (n, o, p, q)) :
  Calls Tryd.prog 59 #[.int .i64 a0] w fun e w' => e = .returned (.tuple #[.bool n, .bool o, .bool p, .bool q]) ∧ Drawn0 w w' := by
 have H : (if a0 = 1 then (some (true, false, false, false)) else (if a0 = 2 then (some (false, true, false, false)) else (if a0 = 6 then (some (false, false, true, true)) else (if a0 = 3 then (some (false, false, true, false)) else (if a0 = 7 then (some (false, false, true, false)) else (some (false, false, false, false))))))) = some (n, o, p, q) := h
 clear h
 by_cases c2 : a0 = 1
 ·rw [if_pos c2] at H
  have a : (a0 == 1) = true := beq_iff_eq.mpr c2
  have b : (a0 != 1) = false := bne_eq_false_iff_eq.mpr c2
  clear c2
  simp only [Option.some.injEq, Prod.mk.injEq] at H
  obtain ⟨rfl, rfl, rfl, rfl⟩ := H
  go_enter Tryd.func59, Tryd.ntmps59
  go_wp2
  refine bodyPost_ret (results_list (rs := [.tmp 2, .tmp 3, .tmp 4, .tmp 5]) rfl (by simp) (.tmp (.tmp (.tmp (.tmp .nil))))) rfl ?_
  exact ⟨dn_, dr_⟩
 ·rw [if_neg c2] at H
  have a : (a0 == 1) = false := beq_eq_false_iff_ne.mpr c2
  have b : (a0 != 1) = true := bne_iff_ne.mpr c2
  by_cases c3 : a0 = 2
  ·rw [if_pos c3] at H
   have c : (a0 == 2) = true := beq_iff_eq.mpr c3
   have d : (a0 != 2) = false := bne_eq_false_iff_eq.mpr c3
   clear c3
   simp only [Option.some.injEq, Prod.mk.injEq] at H
   obtain ⟨rfl, rfl, rfl, rfl⟩ := H
   go_enter Tryd.func59, Tryd.ntmps59
   go_wp2
   refine bodyPost_ret (results_list (rs := [.tmp 2, .tmp 3, .tmp 4, .tmp 5]) rfl (by simp) (.tmp (.tmp (.tmp (.tmp .nil))))) rfl ?_
   exact ⟨dn_, dr_⟩
  ·rw [if_neg c3] at H
   have c : (a0 == 2) = false := beq_eq_false_iff_ne.mpr c3
   have d : (a0 != 2) = true := bne_iff_ne.mpr c3
   by_cases c4 : a0 = 6
   ·rw [if_pos c4] at H
    have g : (a0 == 6) = true := beq_iff_eq.mpr c4
    have i : (a0 != 6) = false := bne_eq_false_iff_eq.mpr c4
    clear c4
    simp only [Option.some.injEq, Prod.mk.injEq] at H
    obtain ⟨rfl, rfl, rfl, rfl⟩ := H
    go_enter Tryd.func59, Tryd.ntmps59
    go_wp2
    refine bodyPost_ret (results_list (rs := [.tmp 2, .tmp 3, .tmp 4, .tmp 5]) rfl (by simp) (.tmp (.tmp (.tmp (.tmp .nil))))) rfl ?_
    exact ⟨dn_, dr_⟩
   ·rw [if_neg c4] at H
    have g : (a0 == 6) = false := beq_eq_false_iff_ne.mpr c4
    have i : (a0 != 6) = true := bne_iff_ne.mpr c4
    by_cases c5 : a0 = 3
    ·rw [if_pos c5] at H
     have j : (a0 == 3) = true := beq_iff_eq.mpr c5
     have k : (a0 != 3) = false := bne_eq_false_iff_eq.mpr c5
     clear c5
     simp only [Option.some.injEq, Prod.mk.injEq] at H
     obtain ⟨rfl, rfl, rfl, rfl⟩ := H
     go_enter Tryd.func59, Tryd.ntmps59
     go_wp2
     refine bodyPost_ret (results_list (rs := [.tmp 2, .tmp 3, .tmp 4, .tmp 5]) rfl (by simp) (.tmp (.tmp (.tmp (.tmp .nil))))) rfl ?_
     exact ⟨dn_, dr_⟩
    ·rw [if_neg c5] at H
     have j : (a0 == 3) = false := beq_eq_false_iff_ne.mpr c5
     have k : (a0 != 3) = true := bne_iff_ne.mpr c5
     by_cases c6 : a0 = 7
     ·rw [if_pos c6] at H
      have l : (a0 == 7) = true := beq_iff_eq.mpr c6
      have m : (a0 != 7) = false := bne_eq_false_iff_eq.mpr c6
      clear c6
      simp only [Option.some.injEq, Prod.mk.injEq] at H
      obtain ⟨rfl, rfl, rfl, rfl⟩ := H
      go_enter Tryd.func59, Tryd.ntmps59
      go_wp2
      refine bodyPost_ret (results_list (rs := [.tmp 2, .tmp 3, .tmp 4, .tmp 5]) rfl (by simp) (.tmp (.tmp (.tmp (.tmp .nil))))) rfl ?_
      exact ⟨dn_, dr_⟩
     ·rw [if_neg c6] at H
      have l : (a0 == 7) = false := beq_eq_false_iff_ne.mpr c6
      have m : (a0 != 7) = true := bne_iff_ne.mpr c6
      simp only [Option.some.injEq, Prod.mk.injEq] at H
      obtain ⟨rfl, rfl, rfl, rfl⟩ := H
      go_enter Tryd.func59, Tryd.ntmps59
      go_wp2
      refine bodyPost_ret (results_list (rs := [.tmp 2, .tmp 3, .tmp 4, .tmp 5]) rfl (by simp) (.tmp (.tmp (.tmp (.tmp .nil))))) rfl ?_
      exact ⟨dn_, dr_⟩

/-! ### six_digit: function 102 -/
def six_digit.f (a0 : Int) : Option (Int) := if a0 ≥ 97 then (some (wrap64 ((wrap64 ((wrap64 (a0)) - 39)) - 48))) else (some (wrap64 ((wrap64 (a0)) - 48)))
set_option maxHeartbeats 8000000 in
set_option maxRecDepth 100000 in
theorem six_digit.calls (a0 : Int) (r : Int) (w : World) (h : six_digit.f a0 = some r) :
  Calls Tryd.prog 102 #[.int .u8 a0] w fun e w' => e = .returned (.int .i64 r) ∧ Drawn0 w w' := by
 have H : (if a0 ≥ 97 then (some (wrap64 ((wrap64 ((wrap64 (a0)) - 39)) - 48))) else (some (wrap64 ((wrap64 (a0)) - 48)))) = some r := h
 clear h
 by_cases c2 : a0 ≥ 97
 ·rw [if_pos c2] at H
  have a : decide (97 ≤ a0) = true := decide_eq_true c2
  clear c2
  obtain rfl := Option.some.inj H
  go_enter Tryd.func102, Tryd.ntmps102
  go_wp2
  go_ret
  exact ⟨dn_, dr_⟩
 ·rw [if_neg c2] at H
  have a : decide (97 ≤ a0) = false := decide_eq_false c2
  clear c2
  obtain rfl := Option.some.inj H
  go_enter Tryd.func102, Tryd.ntmps102
  go_wp2
  go_ret
  exact ⟨dn_, dr_⟩

/-! ### six_at: function 95 -/
def six_at.f (a0 : Int) : Option (Int) := if 0 ≤ (wrap64 (2 * a0)) then (if (wrap64 (2 * a0)) < 128 then ((six_digit.f (bt (⟨#[52, 48, 99, 49, 99, 50, 99, 51, 99, 52, 99, 53, 99, 54, 99, 55, 99, 56, 99, 57, 52, 97, 52, 98, 52, 99, 52, 100, 52, 101, 52, 102, 53, 48, 100, 49, 100, 50, 100, 51, 100, 52, 100, 53, 100, 54, 100, 55, 100, 56, 100, 57, 53, 97, 53, 98, 53, 99, 53, 100, 53, 101, 53, 102, 54, 48, 54, 49, 101, 50, 101, 51, 101, 52, 101, 53, 101, 54, 101, 55, 101, 56, 101, 57, 54, 97, 54, 98, 54, 99, 54, 100, 54, 101, 54, 102, 102, 48, 102, 49, 102, 50, 102, 51, 102, 52, 102, 53, 102, 54, 102, 55, 102, 56, 102, 57, 55, 97, 55, 98, 55, 99, 55, 100, 55, 101, 55, 102]⟩ : ByteArray) (wrap64 (2 * a0)))).bind fun a => (if 0 ≤ (wrap64 ((wrap64 (2 * a0)) + 1)) then (if (wrap64 ((wrap64 (2 * a0)) + 1)) < 128 then ((six_digit.f (bt (⟨#[52, 48, 99, 49, 99, 50, 99, 51, 99, 52, 99, 53, 99, 54, 99, 55, 99, 56, 99, 57, 52, 97, 52, 98, 52, 99, 52, 100, 52, 101, 52, 102, 53, 48, 100, 49, 100, 50, 100, 51, 100, 52, 100, 53, 100, 54, 100, 55, 100, 56, 100, 57, 53, 97, 53, 98, 53, 99, 53, 100, 53, 101, 53, 102, 54, 48, 54, 49, 101, 50, 101, 51, 101, 52, 101, 53, 101, 54, 101, 55, 101, 56, 101, 57, 54, 97, 54, 98, 54, 99, 54, 100, 54, 101, 54, 102, 102, 48, 102, 49, 102, 50, 102, 51, 102, 52, 102, 53, 102, 54, 102, 55, 102, 56, 102, 57, 55, 97, 55, 98, 55, 99, 55, 100, 55, 101, 55, 102]⟩ : ByteArray) (wrap64 ((wrap64 (2 * a0)) + 1)))).bind fun b => (some ((Go.bits .or .i64 (wrap64 (a * 16)) b) % 256))) else (none)) else (none))) else (none)) else (none)
set_option maxHeartbeats 8000000 in
set_option maxRecDepth 100000 in
theorem six_at.calls (a0 : Int) (r : Int) (w : World) (h : six_at.f a0 = some r) :
  Calls Tryd.prog 95 #[.int .i64 a0] w fun e w' => e = .returned (.int .u8 r) ∧ Drawn0 w w' := by
 have H : (if 0 ≤ (wrap64 (2 * a0)) then (if (wrap64 (2 * a0)) < 128 then ((six_digit.f (bt (⟨#[52, 48, 99, 49, 99, 50, 99, 51, 99, 52, 99, 53, 99, 54, 99, 55, 99, 56, 99, 57, 52, 97, 52, 98, 52, 99, 52, 100, 52, 101, 52, 102, 53, 48, 100, 49, 100, 50, 100, 51, 100, 52, 100, 53, 100, 54, 100, 55, 100, 56, 100, 57, 53, 97, 53, 98, 53, 99, 53, 100, 53, 101, 53, 102, 54, 48, 54, 49, 101, 50, 101, 51, 101, 52, 101, 53, 101, 54, 101, 55, 101, 56, 101, 57, 54, 97, 54, 98, 54, 99, 54, 100, 54, 101, 54, 102, 102, 48, 102, 49, 102, 50, 102, 51, 102, 52, 102, 53, 102, 54, 102, 55, 102, 56, 102, 57, 55, 97, 55, 98, 55, 99, 55, 100, 55, 101, 55, 102]⟩ : ByteArray) (wrap64 (2 * a0)))).bind fun d => (if 0 ≤ (wrap64 ((wrap64 (2 * a0)) + 1)) then (if (wrap64 ((wrap64 (2 * a0)) + 1)) < 128 then ((six_digit.f (bt (⟨#[52, 48, 99, 49, 99, 50, 99, 51, 99, 52, 99, 53, 99, 54, 99, 55, 99, 56, 99, 57, 52, 97, 52, 98, 52, 99, 52, 100, 52, 101, 52, 102, 53, 48, 100, 49, 100, 50, 100, 51, 100, 52, 100, 53, 100, 54, 100, 55, 100, 56, 100, 57, 53, 97, 53, 98, 53, 99, 53, 100, 53, 101, 53, 102, 54, 48, 54, 49, 101, 50, 101, 51, 101, 52, 101, 53, 101, 54, 101, 55, 101, 56, 101, 57, 54, 97, 54, 98, 54, 99, 54, 100, 54, 101, 54, 102, 102, 48, 102, 49, 102, 50, 102, 51, 102, 52, 102, 53, 102, 54, 102, 55, 102, 56, 102, 57, 55, 97, 55, 98, 55, 99, 55, 100, 55, 101, 55, 102]⟩ : ByteArray) (wrap64 ((wrap64 (2 * a0)) + 1)))).bind fun c => (some ((Go.bits .or .i64 (wrap64 (d * 16)) c) % 256))) else (none)) else (none))) else (none)) else (none)) = some r := h
 clear h
 obtain ⟨a, j⟩ : ∃ j_ : Int, (wrap64 (2 * a0)) = j_ := ⟨_, rfl⟩
 replace H : (if 0 ≤ (a) then (if (a) < 128 then ((six_digit.f (bt (⟨#[52, 48, 99, 49, 99, 50, 99, 51, 99, 52, 99, 53, 99, 54, 99, 55, 99, 56, 99, 57, 52, 97, 52, 98, 52, 99, 52, 100, 52, 101, 52, 102, 53, 48, 100, 49, 100, 50, 100, 51, 100, 52, 100, 53, 100, 54, 100, 55, 100, 56, 100, 57, 53, 97, 53, 98, 53, 99, 53, 100, 53, 101, 53, 102, 54, 48, 54, 49, 101, 50, 101, 51, 101, 52, 101, 53, 101, 54, 101, 55, 101, 56, 101, 57, 54, 97, 54, 98, 54, 99, 54, 100, 54, 101, 54, 102, 102, 48, 102, 49, 102, 50, 102, 51, 102, 52, 102, 53, 102, 54, 102, 55, 102, 56, 102, 57, 55, 97, 55, 98, 55, 99, 55, 100, 55, 101, 55, 102]⟩ : ByteArray) (a))).bind fun d => (if 0 ≤ (wrap64 ((a) + 1)) then (if (wrap64 ((a) + 1)) < 128 then ((six_digit.f (bt (⟨#[52, 48, 99, 49, 99, 50, 99, 51, 99, 52, 99, 53, 99, 54, 99, 55, 99, 56, 99, 57, 52, 97, 52, 98, 52, 99, 52, 100, 52, 101, 52, 102, 53, 48, 100, 49, 100, 50, 100, 51, 100, 52, 100, 53, 100, 54, 100, 55, 100, 56, 100, 57, 53, 97, 53, 98, 53, 99, 53, 100, 53, 101, 53, 102, 54, 48, 54, 49, 101, 50, 101, 51, 101, 52, 101, 53, 101, 54, 101, 55, 101, 56, 101, 57, 54, 97, 54, 98, 54, 99, 54, 100, 54, 101, 54, 102, 102, 48, 102, 49, 102, 50, 102, 51, 102, 52, 102, 53, 102, 54, 102, 55, 102, 56, 102, 57, 55, 97, 55, 98, 55, 99, 55, 100, 55, 101, 55, 102]⟩ : ByteArray) (wrap64 ((a) + 1)))).bind fun c => (some ((Go.bits .or .i64 (wrap64 (d * 16)) c) % 256))) else (none)) else (none))) else (none)) else (none)) = some r := by first | (rw [j] at H; exact H) | (simp only [j] at H ⊢; exact H)
 have q : (IntKind.i64.wrap (2 * a0)) = a := (i64_w _).trans j
 by_cases c3 : 0 ≤ (a)
 ·rw [if_pos c3] at H
  have t : decide (0 ≤ (a)) = true := decide_eq_true c3
  clear c3
  by_cases c4 : (a) < 128
  ·rw [if_pos c4] at H
   have u : decide ((a) < 128) = true := decide_eq_true c4
   clear c4
   replace H := Option.bind_eq_some_iff.mp H
   obtain ⟨d, o, H⟩ := H
   replace H : (if 0 ≤ (wrap64 ((a) + 1)) then (if (wrap64 ((a) + 1)) < 128 then ((six_digit.f (bt (⟨#[52, 48, 99, 49, 99, 50, 99, 51, 99, 52, 99, 53, 99, 54, 99, 55, 99, 56, 99, 57, 52, 97, 52, 98, 52, 99, 52, 100, 52, 101, 52, 102, 53, 48, 100, 49, 100, 50, 100, 51, 100, 52, 100, 53, 100, 54, 100, 55, 100, 56, 100, 57, 53, 97, 53, 98, 53, 99, 53, 100, 53, 101, 53, 102, 54, 48, 54, 49, 101, 50, 101, 51, 101, 52, 101, 53, 101, 54, 101, 55, 101, 56, 101, 57, 54, 97, 54, 98, 54, 99, 54, 100, 54, 101, 54, 102, 102, 48, 102, 49, 102, 50, 102, 51, 102, 52, 102, 53, 102, 54, 102, 55, 102, 56, 102, 57, 55, 97, 55, 98, 55, 99, 55, 100, 55, 101, 55, 102]⟩ : ByteArray) (wrap64 ((a) + 1)))).bind fun c => (some ((Go.bits .or .i64 (wrap64 (d * 16)) c) % 256))) else (none)) else (none)) = some r := H
   have n := Z o
   clear o
   obtain ⟨b, g⟩ : ∃ j_ : Int, (wrap64 ((a) + 1)) = j_ := ⟨_, rfl⟩
   replace H : (if 0 ≤ (b) then (if (b) < 128 then ((six_digit.f (bt (⟨#[52, 48, 99, 49, 99, 50, 99, 51, 99, 52, 99, 53, 99, 54, 99, 55, 99, 56, 99, 57, 52, 97, 52, 98, 52, 99, 52, 100, 52, 101, 52, 102, 53, 48, 100, 49, 100, 50, 100, 51, 100, 52, 100, 53, 100, 54, 100, 55, 100, 56, 100, 57, 53, 97, 53, 98, 53, 99, 53, 100, 53, 101, 53, 102, 54, 48, 54, 49, 101, 50, 101, 51, 101, 52, 101, 53, 101, 54, 101, 55, 101, 56, 101, 57, 54, 97, 54, 98, 54, 99, 54, 100, 54, 101, 54, 102, 102, 48, 102, 49, 102, 50, 102, 51, 102, 52, 102, 53, 102, 54, 102, 55, 102, 56, 102, 57, 55, 97, 55, 98, 55, 99, 55, 100, 55, 101, 55, 102]⟩ : ByteArray) (b))).bind fun c => (some ((Go.bits .or .i64 (wrap64 (d * 16)) c) % 256))) else (none)) else (none)) = some r := by first | (rw [g] at H; exact H) | (simp only [g] at H ⊢; exact H)
   (try rw [g] at n)
   have s : (IntKind.i64.wrap ((a) + 1)) = b := (i64_w _).trans g
   by_cases c8 : 0 ≤ (b)
   ·rw [if_pos c8] at H
    have v : decide (0 ≤ (b)) = true := decide_eq_true c8
    clear c8
    by_cases c9 : (b) < 128
    ·rw [if_pos c9] at H
     have x : decide ((b) < 128) = true := decide_eq_true c9
     clear c9
     replace H := Option.bind_eq_some_iff.mp H
     obtain ⟨c, l, H⟩ := H
     replace H : (some ((Go.bits .or .i64 (wrap64 (d * 16)) c) % 256)) = some r := H
     have k := Z l
     clear l
     obtain rfl := Option.some.inj H
     have p5 : 0 ≤ ((a) : Int) := od_
     have p : (a) < (128 : Int) := od_
     have y := bt_at (⟨#[52, 48, 99, 49, 99, 50, 99, 51, 99, 52, 99, 53, 99, 54, 99, 55, 99, 56, 99, 57, 52, 97, 52, 98, 52, 99, 52, 100, 52, 101, 52, 102, 53, 48, 100, 49, 100, 50, 100, 51, 100, 52, 100, 53, 100, 54, 100, 55, 100, 56, 100, 57, 53, 97, 53, 98, 53, 99, 53, 100, 53, 101, 53, 102, 54, 48, 54, 49, 101, 50, 101, 51, 101, 52, 101, 53, 101, 54, 101, 55, 101, 56, 101, 57, 54, 97, 54, 98, 54, 99, 54, 100, 54, 101, 54, 102, 102, 48, 102, 49, 102, 50, 102, 51, 102, 52, 102, 53, 102, 54, 102, 55, 102, 56, 102, 57, 55, 97, 55, 98, 55, 99, 55, 100, 55, 101, 55, 102]⟩ : ByteArray) (a)
     replace p5 := eq_true p5
     replace p := eq_true p
     go_enter Tryd.func95, Tryd.ntmps95
     go_wp2_with (first | (go_at_call 102; (with_reducible refine (six_digit.calls (bt (⟨#[52, 48, 99, 49, 99, 50, 99, 51, 99, 52, 99, 53, 99, 54, 99, 55, 99, 56, 99, 57, 52, 97, 52, 98, 52, 99, 52, 100, 52, 101, 52, 102, 53, 48, 100, 49, 100, 50, 100, 51, 100, 52, 100, 53, 100, 54, 100, 55, 100, 56, 100, 57, 53, 97, 53, 98, 53, 99, 53, 100, 53, 101, 53, 102, 54, 48, 54, 49, 101, 50, 101, 51, 101, 52, 101, 53, 101, 54, 101, 55, 101, 56, 101, 57, 54, 97, 54, 98, 54, 99, 54, 100, 54, 101, 54, 102, 102, 48, 102, 49, 102, 50, 102, 51, 102, 52, 102, 53, 102, 54, 102, 55, 102, 56, 102, 57, 55, 97, 55, 98, 55, 99, 55, 100, 55, 101, 55, 102]⟩ : ByteArray) (a)) d _ n.out).mono ?_); rintro e w' ⟨rfl, ⟨nd, rfl⟩⟩; (try first | exact ⟨rfl, _, World.drewN_drewN _ _ _⟩ | exact ⟨rfl, _, Eq.trans (World.drewN_drewN _ _ _) (congrArg (World.drewN _) (Nat.add_assoc _ _ _))⟩); have p10 : 0 ≤ ((b) : Int) := od_; have i : (b) < (128 : Int) := od_; have m := bt_at (⟨#[52, 48, 99, 49, 99, 50, 99, 51, 99, 52, 99, 53, 99, 54, 99, 55, 99, 56, 99, 57, 52, 97, 52, 98, 52, 99, 52, 100, 52, 101, 52, 102, 53, 48, 100, 49, 100, 50, 100, 51, 100, 52, 100, 53, 100, 54, 100, 55, 100, 56, 100, 57, 53, 97, 53, 98, 53, 99, 53, 100, 53, 101, 53, 102, 54, 48, 54, 49, 101, 50, 101, 51, 101, 52, 101, 53, 101, 54, 101, 55, 101, 56, 101, 57, 54, 97, 54, 98, 54, 99, 54, 100, 54, 101, 54, 102, 102, 48, 102, 49, 102, 50, 102, 51, 102, 52, 102, 53, 102, 54, 102, 55, 102, 56, 102, 57, 55, 97, 55, 98, 55, 99, 55, 100, 55, 101, 55, 102]⟩ : ByteArray) (b); replace p10 := eq_true p10; replace i := eq_true i) | (go_at_call 102; (with_reducible refine (six_digit.calls (bt (⟨#[52, 48, 99, 49, 99, 50, 99, 51, 99, 52, 99, 53, 99, 54, 99, 55, 99, 56, 99, 57, 52, 97, 52, 98, 52, 99, 52, 100, 52, 101, 52, 102, 53, 48, 100, 49, 100, 50, 100, 51, 100, 52, 100, 53, 100, 54, 100, 55, 100, 56, 100, 57, 53, 97, 53, 98, 53, 99, 53, 100, 53, 101, 53, 102, 54, 48, 54, 49, 101, 50, 101, 51, 101, 52, 101, 53, 101, 54, 101, 55, 101, 56, 101, 57, 54, 97, 54, 98, 54, 99, 54, 100, 54, 101, 54, 102, 102, 48, 102, 49, 102, 50, 102, 51, 102, 52, 102, 53, 102, 54, 102, 55, 102, 56, 102, 57, 55, 97, 55, 98, 55, 99, 55, 100, 55, 101, 55, 102]⟩ : ByteArray) (b)) c _ k.out).mono ?_); rintro e w' ⟨rfl, ⟨nd, rfl⟩⟩; (try first | exact ⟨rfl, _, World.drewN_drewN _ _ _⟩ | exact ⟨rfl, _, Eq.trans (World.drewN_drewN _ _ _) (congrArg (World.drewN _) (Nat.add_assoc _ _ _))⟩)))
     repeat (go_quiet (first | (go_at_call 102; (with_reducible refine (six_digit.calls (bt (⟨#[52, 48, 99, 49, 99, 50, 99, 51, 99, 52, 99, 53, 99, 54, 99, 55, 99, 56, 99, 57, 52, 97, 52, 98, 52, 99, 52, 100, 52, 101, 52, 102, 53, 48, 100, 49, 100, 50, 100, 51, 100, 52, 100, 53, 100, 54, 100, 55, 100, 56, 100, 57, 53, 97, 53, 98, 53, 99, 53, 100, 53, 101, 53, 102, 54, 48, 54, 49, 101, 50, 101, 51, 101, 52, 101, 53, 101, 54, 101, 55, 101, 56, 101, 57, 54, 97, 54, 98, 54, 99, 54, 100, 54, 101, 54, 102, 102, 48, 102, 49, 102, 50, 102, 51, 102, 52, 102, 53, 102, 54, 102, 55, 102, 56, 102, 57, 55, 97, 55, 98, 55, 99, 55, 100, 55, 101, 55, 102]⟩ : ByteArray) (a)) d _ n.out).mono ?_); rintro e w' ⟨rfl, ⟨nd, rfl⟩⟩; (try first | exact ⟨rfl, _, World.drewN_drewN _ _ _⟩ | exact ⟨rfl, _, Eq.trans (World.drewN_drewN _ _ _) (congrArg (World.drewN _) (Nat.add_assoc _ _ _))⟩); have p10 : 0 ≤ ((b) : Int) := od_; have i : (b) < (128 : Int) := od_; have m := bt_at (⟨#[52, 48, 99, 49, 99, 50, 99, 51, 99, 52, 99, 53, 99, 54, 99, 55, 99, 56, 99, 57, 52, 97, 52, 98, 52, 99, 52, 100, 52, 101, 52, 102, 53, 48, 100, 49, 100, 50, 100, 51, 100, 52, 100, 53, 100, 54, 100, 55, 100, 56, 100, 57, 53, 97, 53, 98, 53, 99, 53, 100, 53, 101, 53, 102, 54, 48, 54, 49, 101, 50, 101, 51, 101, 52, 101, 53, 101, 54, 101, 55, 101, 56, 101, 57, 54, 97, 54, 98, 54, 99, 54, 100, 54, 101, 54, 102, 102, 48, 102, 49, 102, 50, 102, 51, 102, 52, 102, 53, 102, 54, 102, 55, 102, 56, 102, 57, 55, 97, 55, 98, 55, 99, 55, 100, 55, 101, 55, 102]⟩ : ByteArray) (b); replace p10 := eq_true p10; replace i := eq_true i) | (go_at_call 102; (with_reducible refine (six_digit.calls (bt (⟨#[52, 48, 99, 49, 99, 50, 99, 51, 99, 52, 99, 53, 99, 54, 99, 55, 99, 56, 99, 57, 52, 97, 52, 98, 52, 99, 52, 100, 52, 101, 52, 102, 53, 48, 100, 49, 100, 50, 100, 51, 100, 52, 100, 53, 100, 54, 100, 55, 100, 56, 100, 57, 53, 97, 53, 98, 53, 99, 53, 100, 53, 101, 53, 102, 54, 48, 54, 49, 101, 50, 101, 51, 101, 52, 101, 53, 101, 54, 101, 55, 101, 56, 101, 57, 54, 97, 54, 98, 54, 99, 54, 100, 54, 101, 54, 102, 102, 48, 102, 49, 102, 50, 102, 51, 102, 52, 102, 53, 102, 54, 102, 55, 102, 56, 102, 57, 55, 97, 55, 98, 55, 99, 55, 100, 55, 101, 55, 102]⟩ : ByteArray) (b)) c _ k.out).mono ?_); rintro e w' ⟨rfl, ⟨nd, rfl⟩⟩; (try first | exact ⟨rfl, _, World.drewN_drewN _ _ _⟩ | exact ⟨rfl, _, Eq.trans (World.drewN_drewN _ _ _) (congrArg (World.drewN _) (Nat.add_assoc _ _ _))⟩))); try go_wp2_with (first | (go_at_call 102; (with_reducible refine (six_digit.calls (bt (⟨#[52, 48, 99, 49, 99, 50, 99, 51, 99, 52, 99, 53, 99, 54, 99, 55, 99, 56, 99, 57, 52, 97, 52, 98, 52, 99, 52, 100, 52, 101, 52, 102, 53, 48, 100, 49, 100, 50, 100, 51, 100, 52, 100, 53, 100, 54, 100, 55, 100, 56, 100, 57, 53, 97, 53, 98, 53, 99, 53, 100, 53, 101, 53, 102, 54, 48, 54, 49, 101, 50, 101, 51, 101, 52, 101, 53, 101, 54, 101, 55, 101, 56, 101, 57, 54, 97, 54, 98, 54, 99, 54, 100, 54, 101, 54, 102, 102, 48, 102, 49, 102, 50, 102, 51, 102, 52, 102, 53, 102, 54, 102, 55, 102, 56, 102, 57, 55, 97, 55, 98, 55, 99, 55, 100, 55, 101, 55, 102]⟩ : ByteArray) (a)) d _ n.out).mono ?_); rintro e w' ⟨rfl, ⟨nd, rfl⟩⟩; (try first | exact ⟨rfl, _, World.drewN_drewN _ _ _⟩ | exact ⟨rfl, _, Eq.trans (World.drewN_drewN _ _ _) (congrArg (World.drewN _) (Nat.add_assoc _ _ _))⟩); have p10 : 0 ≤ ((b) : Int) := od_; have i : (b) < (128 : Int) := od_; have m := bt_at (⟨#[52, 48, 99, 49, 99, 50, 99, 51, 99, 52, 99, 53, 99, 54, 99, 55, 99, 56, 99, 57, 52, 97, 52, 98, 52, 99, 52, 100, 52, 101, 52, 102, 53, 48, 100, 49, 100, 50, 100, 51, 100, 52, 100, 53, 100, 54, 100, 55, 100, 56, 100, 57, 53, 97, 53, 98, 53, 99, 53, 100, 53, 101, 53, 102, 54, 48, 54, 49, 101, 50, 101, 51, 101, 52, 101, 53, 101, 54, 101, 55, 101, 56, 101, 57, 54, 97, 54, 98, 54, 99, 54, 100, 54, 101, 54, 102, 102, 48, 102, 49, 102, 50, 102, 51, 102, 52, 102, 53, 102, 54, 102, 55, 102, 56, 102, 57, 55, 97, 55, 98, 55, 99, 55, 100, 55, 101, 55, 102]⟩ : ByteArray) (b); replace p10 := eq_true p10; replace i := eq_true i) | (go_at_call 102; (with_reducible refine (six_digit.calls (bt (⟨#[52, 48, 99, 49, 99, 50, 99, 51, 99, 52, 99, 53, 99, 54, 99, 55, 99, 56, 99, 57, 52, 97, 52, 98, 52, 99, 52, 100, 52, 101, 52, 102, 53, 48, 100, 49, 100, 50, 100, 51, 100, 52, 100, 53, 100, 54, 100, 55, 100, 56, 100, 57, 53, 97, 53, 98, 53, 99, 53, 100, 53, 101, 53, 102, 54, 48, 54, 49, 101, 50, 101, 51, 101, 52, 101, 53, 101, 54, 101, 55, 101, 56, 101, 57, 54, 97, 54, 98, 54, 99, 54, 100, 54, 101, 54, 102, 102, 48, 102, 49, 102, 50, 102, 51, 102, 52, 102, 53, 102, 54, 102, 55, 102, 56, 102, 57, 55, 97, 55, 98, 55, 99, 55, 100, 55, 101, 55, 102]⟩ : ByteArray) (b)) c _ k.out).mono ?_); rintro e w' ⟨rfl, ⟨nd, rfl⟩⟩; (try first | exact ⟨rfl, _, World.drewN_drewN _ _ _⟩ | exact ⟨rfl, _, Eq.trans (World.drewN_drewN _ _ _) (congrArg (World.drewN _) (Nat.add_assoc _ _ _))⟩))))
     go_ret
     exact ⟨by first | rfl | (simp; done) | (simp only [← j, ← g, i64_w]; rfl) | (simp only [← j, ← g] <;> (first | rfl | simp)) | (simp [*]; done), dr_⟩
    ·rw [if_neg c9] at H
     exact absurd H (by simp)
   ·rw [if_neg c8] at H
    exact absurd H (by simp)
  ·rw [if_neg c4] at H
   exact absurd H (by simp)
 ·rw [if_neg c3] at H
  exact absurd H (by simp)

/-! ### six_Put: function 83 -/
def six_Put.f (a0 : Int) : Option (Int × Option Er × (List (S184))) := if a0 < 0 then (some (0, some (Er.num 1), ([] : List (S184)))) else (if a0 ≥ 64 then (some (0, some (Er.num 1), ([] : List (S184)))) else ((six_at.f a0).bind fun a => (some (a, none, ([] : List (S184))))))
set_option maxHeartbeats 8000000 in
set_option maxRecDepth 100000 in
theorem six_Put.calls (a0 : Int) (b : Int) (c : Option Er) (d : List (S184)) (w : World) (h : six_Put.f a0 = some (b, c, d)) :
  Calls Tryd.prog 83 #[.int .i64 a0] w fun e w' => ∃ i : Value, e = .returned (.tuple #[.int .u8 b, errW i c]) ∧ Kd.V k184 184 w' w.heap.size (fun k_ => (w.heap.size ≤ k_)) i d ∧ Below w.heap.size w w' := by
 have m := Tryd.underlying34
 have n := Tryd.underlying75
 have HB := Z (Below.refl w.heap.size w)
 have H : (if a0 < 0 then (some (0, some (Er.num 1), ([] : List (S184)))) else (if a0 ≥ 64 then (some (0, some (Er.num 1), ([] : List (S184)))) else ((six_at.f a0).bind fun a => (some (a, none, ([] : List (S184))))))) = some (b, c, d) := h
 clear h
 by_cases c2 : a0 < 0
 ·rw [if_pos c2] at H
  have j : decide (a0 < 0) = true := decide_eq_true c2
  clear c2
  simp only [Option.some.injEq, Prod.mk.injEq] at H
  obtain ⟨rfl, rfl, rfl⟩ := H
  go_enter Tryd.func83, Tryd.ntmps83
  go_wp2
  go_ret2
  exact ⟨_, er_, Kd.R_V (by first | exact Kd.R_nil _ _ _ 0 _ | exact Kd.N_nil _ _ _ _ _ | exact Kd.V_nil _ _ _ _ _ | exact Kd.Q_nil _ _ _ _ _ | exact Kd.S_nil _ _ _ _ _), bl_⟩
 ·rw [if_neg c2] at H
  have j : decide (a0 < 0) = false := decide_eq_false c2
  clear c2
  by_cases c3 : a0 ≥ 64
  ·rw [if_pos c3] at H
   have k : decide (64 ≤ a0) = true := decide_eq_true c3
   clear c3
   simp only [Option.some.injEq, Prod.mk.injEq] at H
   obtain ⟨rfl, rfl, rfl⟩ := H
   go_enter Tryd.func83, Tryd.ntmps83
   go_wp2
   go_ret2
   exact ⟨_, er_, Kd.R_V (by first | exact Kd.R_nil _ _ _ 0 _ | exact Kd.N_nil _ _ _ _ _ | exact Kd.V_nil _ _ _ _ _ | exact Kd.Q_nil _ _ _ _ _ | exact Kd.S_nil _ _ _ _ _), bl_⟩
  ·rw [if_neg c3] at H
   have k : decide (64 ≤ a0) = false := decide_eq_false c3
   clear c3
   replace H := Option.bind_eq_some_iff.mp H
   obtain ⟨a, g, H⟩ := H
   replace H : (some (a, none, ([] : List (S184)))) = some (b, c, d) := H
   have l := Z g
   clear g
   simp only [Option.some.injEq, Prod.mk.injEq] at H
   obtain ⟨rfl, rfl, rfl⟩ := H
   go_enter Tryd.func83, Tryd.ntmps83
   go_wp2_with (first | ((with_reducible refine gate_callee (f := 95) rfl ?_); refine goesL_ (some 12) rfl rfl Tryd.func95 (by kernel_rfl) rfl #[.int .i64 a0] rfl ag_ ?_; (with_reducible refine (six_at.calls a0 a _ l.out).mono ?_); rintro e w' ⟨rfl, ⟨nd, rfl⟩⟩; refine ⟨_, rfl, ?_⟩))
   go_ret2
   exact ⟨_, er_, Kd.R_V (by first | exact Kd.R_nil _ _ _ 0 _ | exact Kd.N_nil _ _ _ _ _ | exact Kd.V_nil _ _ _ _ _ | exact Kd.Q_nil _ _ _ _ _ | exact Kd.S_nil _ _ _ _ _), bl_⟩

/-! ### attr_sum: function 84 -/
def attr_sum.l0 : Nat → Int → List (S119) → Int → Int → Option (Int)
 | 0, _, _, _, _ => none
 | k + 1, c, b, d, a => if a < d then (if 0 ≤ a then (if a < (b.length : Int) then (if (rd_T119 b a).f0 = true then (attr_sum.l0 k (wrap64 (c + ((rd_T119 b a).f1))) b d (wrap64 (a + 1))) else (attr_sum.l0 k c b d (wrap64 (a + 1)))) else (none)) else (none)) else (some c)
def attr_sum.f (k : Nat) (l0 : List (S119)) : Option (Int) := attr_sum.l0 k 0 l0 (l0.length : Int) 0
theorem attr_sum.mono_l : ∀ k, (∀ b c d e, LeO (attr_sum.l0 k b c d e) (attr_sum.l0 (k + 1) b c d e))
 | 0 => fun _ _ _ _ r h => by simp [attr_sum.l0] at h
 | k + 1 => by
  have a := attr_sum.mono_l k
  ·intro b c d e
   unfold attr_sum.l0
   repeat' first
   | (with_reducible exact a _ _ _ _)
   | (with_reducible exact LeO.refl _)
   | (with_reducible exact LeO.none _)
   | (with_reducible refine LeO.ite ?_ ?_)
   | (with_reducible refine LeO.bind ?_ (fun _ => ?_))
   | exact a _ _ _ _
   | exact LeO.none _
   | refine LeO.ite ?_ ?_
   | refine LeO.bind ?_ (fun _ => ?_)
theorem attr_sum.mono : ∀ a0 k, LeO (attr_sum.f k a0) (attr_sum.f (k + 1) a0) := by
 intro a0 k
 have a := attr_sum.mono_l k
 unfold attr_sum.f
 repeat' first
   | (with_reducible exact a _ _ _ _)
   | (with_reducible exact LeO.refl _)
   | (with_reducible exact LeO.none _)
   | (with_reducible refine LeO.ite ?_ ?_)
   | (with_reducible refine LeO.bind ?_ (fun _ => ?_))
   | exact a _ _ _ _
   | exact LeO.none _
   | refine LeO.ite ?_ ?_
   | refine LeO.bind ?_ (fun _ => ?_)
set_option maxHeartbeats 8000000 in
set_option maxRecDepth 100000 in
theorem attr_sum.calls (k : Nat) (K : Option Addr) (c0 : Nat) (l0 : List (S119)) (r : Int) (w : World) (hr0 : Kd.C k119 w K l0.length l0) (D : l0.length ≤ c0) (h : attr_sum.f k l0 = some r) :
  Calls Tryd.prog 84 #[.slice K l0.length c0] w fun e w' => e = .returned (.int .i64 r) ∧ Below w.heap.size w w' := by
 have Q := Tryd.underlying119
 have A := Z hr0
 have V := Z D
 clear hr0 D
 have HB := Z (Below.refl w.heap.size w)
 have H : (attr_sum.l0 k 0 l0 (l0.length : Int) 0) = some r := h
 clear h
 have H' := Z H
 clear H
 go_enter Tryd.func84, Tryd.ntmps84
 go_wp2
 go_loopg [3, 8] k (fun kq T U w' => ∃ (d : Int) (a : Int), T = .int .i64 d ∧ U = .int .i64 a ∧ Aside0 (attr_sum.l0 kq d l0 (l0.length : Int) a = some r) ∧ Aside0 (kq ≤ k) ∧ Aside0 (Below w.heap.size w w'))
 case atStart => exact ⟨(0), (0), (dn_), (dn_), H', ⟨Nat.le_refl _⟩, ⟨bl_⟩⟩
 case round =>
  clear H'
  obtain ⟨d, a, rfl, rfl, HA, u, HB⟩ := hrel
  cases gk with
  | zero => exact absurd HA.out (by simp [attr_sum.l0])
  | succ k1 =>
   have H := HA.out
   clear HA
   simp only [attr_sum.l0] at H
   by_cases c2 : a < (l0.length : Int)
   ·rw [if_pos c2] at H
    have E : decide (a < (l0.length : Int)) = true := decide_eq_true c2
    clear c2
    by_cases c3 : 0 ≤ a
    ·rw [if_pos c3] at H
     have R : decide (0 ≤ a) = true := decide_eq_true c3
     clear c3
     by_cases c4 : a < (l0.length : Int)
     ·rw [if_pos c4] at H
      have S : decide (a < (l0.length : Int)) = true := decide_eq_true c4
      clear c4
      obtain ⟨B, s⟩ : ∃ b_ : Bool, b_ = ((rd_T119 l0 a).f0) := ⟨_, rfl⟩
      replace H : (if B = true then (attr_sum.l0 k1 (wrap64 (d + ((rd_T119 l0 a).f1))) l0 (l0.length : Int) (wrap64 (a + 1))) else (attr_sum.l0 k1 d l0 (l0.length : Int) (wrap64 (a + 1)))) = some r := by rw [← s] at H; exact H
      have v := Z s
      clear s
      by_cases c6 : B = true
      ·subst c6
       have H1 : (attr_sum.l0 k1 (wrap64 (d + ((rd_T119 l0 a).f1))) l0 (l0.length : Int) (wrap64 (a + 1))) = some r := by rw [if_pos rfl] at H; exact H
       clear H
       have H := H1
       clear H1
       have H' := Z H
       clear H
       have g : 0 ≤ (a : Int) := od_
       have i : a < (l0.length : Int) := od_
       obtain ⟨z, q, b, c⟩ := at_T119 A.out a g i
       (try rw [← v.out] at b)
       cases q
       replace b := (HB.out.cell (bk_ w _ b)).trans b
       replace c := (HB.out.cell (bk_ w _ c)).trans c
       replace g := eq_true g
       replace i := eq_true i
       go_wp2_with (first | ((with_reducible refine gate_dst (N := 5) rfl ?_); refine bx_ 5 119 #[.bool false, .int .i64 0] ?_; intro j hg w7 hbox hb; have l := Z (hbox); have y := Z (ln_ hg : w.heap.size ≤ j); have x := Z (ln_ hg : w.heap.size ≤ j); replace HB := Z (below_step bl_ hb); clear hb hbox hg; obtain ⟨L, M, O, P⟩ := cells2 l.out))
       go_roundg k1
       case measure => have := u.out; omega
       case rel => exact ⟨(wrap64 (d + ((rd_T119 l0 a).f1))), (wrap64 (a + 1)), (dn_), (dn_), H', ⟨by have := u.out; omega⟩, ⟨bl_⟩⟩
      ·replace c6 := Bool.eq_false_iff.mpr c6
       subst c6
       have H1 : (attr_sum.l0 k1 d l0 (l0.length : Int) (wrap64 (a + 1))) = some r := by rw [if_neg (show ¬ (false = true) by decide)] at H; exact H
       clear H
       have H := H1
       clear H1
       have H' := Z H
       clear H
       have g : 0 ≤ (a : Int) := od_
       have i : a < (l0.length : Int) := od_
       obtain ⟨z, q, b, c⟩ := at_T119 A.out a g i
       (try rw [← v.out] at b)
       cases q
       replace b := (HB.out.cell (bk_ w _ b)).trans b
       replace c := (HB.out.cell (bk_ w _ c)).trans c
       replace g := eq_true g
       replace i := eq_true i
       go_wp2_with (first | ((with_reducible refine gate_dst (N := 5) rfl ?_); refine bx_ 5 119 #[.bool false, .int .i64 0] ?_; intro j hg W hbox hb; have l := Z (hbox); have y := Z (ln_ hg : w.heap.size ≤ j); have x := Z (ln_ hg : w.heap.size ≤ j); replace HB := Z (below_step bl_ hb); clear hb hbox hg; obtain ⟨F, G, I, J⟩ := cells2 l.out))
       go_roundg k1
       case measure => have := u.out; omega
       case rel => exact ⟨(d), (wrap64 (a + 1)), (dn_), (dn_), H', ⟨by have := u.out; omega⟩, ⟨bl_⟩⟩
     ·rw [if_neg c4] at H
      exact absurd H (by simp)
    ·rw [if_neg c3] at H
     exact absurd H (by simp)
   ·rw [if_neg c2] at H
    have E : decide (a < (l0.length : Int)) = false := decide_eq_false c2
    clear c2
    obtain rfl := Option.some.inj H
    go_wp2
    go_ret
    exact ⟨er_, bl_⟩

/-! ### attr_bit: function 85 -/
def attr_bit.f (a0 : Bool) (a1 : Int) : Option (Bool × Int) := some (a0, a1)
set_option maxHeartbeats 8000000 in
set_option maxRecDepth 100000 in
theorem attr_bit.calls (a0 : Bool) (a1 : Int) (j : Bool) (k : Int) (w : World) (h : attr_bit.f a0 a1 = some (j, k)) :
  Calls Tryd.prog 85 #[.bool a0, .int .i64 a1] w fun e w' => e = .returned (.agg #[.bool j, .int .i64 k]) ∧ Below w.heap.size w w' := by
 have r := Tryd.underlying119
 have HB := Z (Below.refl w.heap.size w)
 have H : (some (a0, a1)) = some (j, k) := h
 clear h
 simp only [Option.some.injEq, Prod.mk.injEq] at H
 obtain ⟨rfl, rfl⟩ := H
 go_enter Tryd.func85, Tryd.ntmps85
 go_wp2_with (first | ((with_reducible refine gate_dst (N := 4) rfl ?_); refine bx_ 4 119 #[.bool false, .int .i64 0] ?_; intro a hg w3 hbox hb; have b := Z (hbox); have q := Z (ln_ hg : w.heap.size ≤ a); have p := Z (ln_ hg : w.heap.size ≤ a); replace HB := Z (below_step bl_ hb); clear hb hbox hg; obtain ⟨l, m, n, o⟩ := cells2 b.out))
 refine bodyPost_ret (results_cell_row rfl _ _ a 119 #[.bool a0, .int .i64 a1] (0, 0) _ rfl (by (with_reducible repeat apply pK); refine blk_put (cs := #[.bool a0, .int .i64 0]) ?_ 1 _ rfl; (with_reducible repeat apply pK); refine blk_put (cs := #[.bool false, .int .i64 0]) ?_ 0 _ rfl; (with_reducible repeat apply pK); exact b.out) Tryd.underlying119 rfl (by kernel_rfl)) rfl ?_
 exact ⟨er_, bl_⟩

/-! ### attr_Put: function 60 -/
def attr_Put.j0 : Nat → Bool → Bool → Bool → Int → Bool → Option (Int × Option Er × (List (S184)))
 | 0, _, _, _, _, _ => none
 | k + 1, x11, e, g, h, i => if x11 = true then (some (0, some (Er.num 1), ([] : List (S184)))) else ((attr_bit.f e 32).bind fun b => ((attr_bit.f g 16).bind fun c => ((attr_bit.f i 1).bind fun d => ((attr_sum.f k (([(⟨b.1, b.2⟩ : S119), (⟨c.1, c.2⟩ : S119), (⟨d.1, d.2⟩ : S119)] : List (S119)))).bind fun j => ((six_Put.f (wrap64 (j + (wrap64 (4 * h))))).bind fun a => (some (a.1, a.2.1, a.2.2)))))))
def attr_Put.f (k : Nat) (b : Bool) (c : Bool) (a : Int) (d : Bool) : Option (Int × Option Er × (List (S184))) := if a < 0 then (attr_Put.j0 k true b c a d) else (attr_Put.j0 k (decide (a > 3)) b c a d)
theorem attr_Put.mono_l : ∀ k, (∀ b c d e f, LeO (attr_Put.j0 k b c d e f) (attr_Put.j0 (k + 1) b c d e f))
 | 0 => fun _ _ _ _ _ r h => by simp [attr_Put.j0] at h
 | k + 1 => by
  have a := attr_Put.mono_l k
  ·intro b c d e f
   unfold attr_Put.j0
   repeat' first
   | (with_reducible exact a _ _ _ _ _)
   | (with_reducible exact attr_sum.mono _ _)
   | (with_reducible exact LeO.refl _)
   | (with_reducible exact LeO.none _)
   | (with_reducible refine LeO.ite ?_ ?_)
   | (with_reducible refine LeO.bind ?_ (fun _ => ?_))
   | exact a _ _ _ _ _
   | exact attr_sum.mono _ _
   | exact LeO.none _
   | refine LeO.ite ?_ ?_
   | refine LeO.bind ?_ (fun _ => ?_)
theorem attr_Put.mono : ∀ a0 a1 b c k, LeO (attr_Put.f k a0 a1 b c) (attr_Put.f (k + 1) a0 a1 b c) := by
 intro a0 a1 b c k
 have a := attr_Put.mono_l k
 unfold attr_Put.f
 repeat' first
   | (with_reducible exact a _ _ _ _ _)
   | (with_reducible exact attr_sum.mono _ _)
   | (with_reducible exact LeO.refl _)
   | (with_reducible exact LeO.none _)
   | (with_reducible refine LeO.ite ?_ ?_)
   | (with_reducible refine LeO.bind ?_ (fun _ => ?_))
   | exact a _ _ _ _ _
   | exact attr_sum.mono _ _
   | exact LeO.none _
   | refine LeO.ite ?_ ?_
   | refine LeO.bind ?_ (fun _ => ?_)
def attr_Put.T3 : Bool × List (List Nat × List Nat) := (true, [([], []), ([0], [0]), ([1], [1]), ([], []), ([3], [3]), ([4, 2], [4]), ([], []), ([6], [6]), ([7, 5], [7]), ([2, 5, 8], [2, 5, 8]), ([9, 8], [9]), ([], []), ([11], [11]), ([12], [12]), ([10, 13], [10, 13]), ([14, 10], [14]), ([15], [15]), ([15], [15]), ([16, 15, 0, 1, 2, 3, 4, 5, 6, 7, 8, 9, 10, 11, 12, 13, 14, 15, 16, 17], [16]), ([17, 18, 0, 1, 2, 3, 4, 5, 6, 7, 8, 9, 10, 11, 12, 13, 14, 15, 16, 17, 18], [17])])
def attr_Put.B3 : List Nat := [0, 1, 3, 0, 8, 31, 0, 64, 255, 511, 1023, 0, 2048, 6144, 16383, 32767, 65535, 65535, 262143, 524287]
theorem attr_Put.tab3 : rtab .any (opsOf Tryd.f60 3) = attr_Put.T3 := by kernel_rfl
theorem attr_Put.bits3 : waitsOk attr_Put.T3.2 attr_Put.B3 = true := by kernel_rfl
set_option maxHeartbeats 8000000 in
set_option maxRecDepth 100000 in
theorem attr_Put.calls (k : Nat) (r : Bool) (p : Bool) (c : Int) (l : Bool) (I : Int) (J : Option Er) (L : List (S184)) (w : World) (h : attr_Put.f k r p c l = some (I, J, L)) :
  Calls Tryd.prog 60 #[.agg #[.bool r, .bool p, .int .i64 c, .bool l]] w fun e w' => ∃ aI : Value, e = .returned (.tuple #[.int .u8 I, errW aI J]) ∧ Kd.V k184 184 w' w.heap.size (fun k_ => (w.heap.size ≤ k_)) aI L ∧ Below w.heap.size w w' := by
 have aY := Tryd.underlying28
 have aZ := Tryd.underlying34
 have a0 := Tryd.underlying75
 have HB := Z (Below.refl w.heap.size w)
 have H : (if c < 0 then (attr_Put.j0 k true r p c l) else (attr_Put.j0 k (decide (c > 3)) r p c l)) = some (I, J, L) := h
 clear h
 have ae := Z H
 clear H
 go_enter Tryd.func60, Tryd.ntmps60
 go_upto_region 1 with (first | ((with_reducible refine gate_dst (N := 1) rfl ?_); refine bx_ 1 28 #[.bool r, .bool p, .int .i64 c, .bool l] ?_; intro s hg w3 hbox hb; have a := Z (hbox); have aV := Z (ln_ hg : w.heap.size ≤ s); have aU := Z (ln_ hg : w.heap.size ≤ s); replace HB := Z (below_step bl_ hb); clear hb hbox hg))
 (try simp only [Act.put, sA, sB, sC])
 go_cut [11] (fun aT wc => ∃ (kq : Nat) (O : Bool), aT = .bool O ∧ Aside0 (attr_Put.j0 kq O r p c l = some (I, J, L)) ∧ Aside0 (kq ≤ k) ∧ Aside0 (wc.heap[s]? = some (.cells #[.bool r, .bool p, .int .i64 c, .bool l] 28 (0, 0))) ∧ Aside0 (Below w.heap.size w wc))
 case first =>
  have H := ae.out
  clear ae
  by_cases c4 : c < 0
  ·rw [if_pos c4] at H
   have G : decide (c < 0) = true := decide_eq_true c4
   clear c4
   (first | rw [G] | (simp only [i64_w, i32_w]; rw [G]) | skip)
   have H' := Z H
   clear H
   obtain ⟨ah, ai, aj, ak, ap, aq, ar, au⟩ := cells4 a.out
   go_wp2
   go_meet
   case rel => exact ⟨_, (true), (dn_), H', ⟨by first | omega | exact Nat.le_refl _⟩, ⟨vK a.out⟩, ⟨bl_⟩⟩
  ·rw [if_neg c4] at H
   have G : decide (c < 0) = false := decide_eq_false c4
   clear c4
   (first | rw [G] | (simp only [i64_w, i32_w]; rw [G]) | skip)
   have H' := Z H
   clear H
   obtain ⟨al, am, an, ao, av, aw, ax, ay⟩ := cells4 a.out
   go_wp2
   go_meet
   case rel => exact ⟨_, (decide (c > 3)), (dn_), H', ⟨by first | omega | exact Nat.le_refl _⟩, ⟨vK a.out⟩, ⟨bl_⟩⟩
 case rest =>
  clear ae
  try clear p2
  try clear c4
  try clear G
  try clear c6
  try clear ah
  try clear ai
  try clear aj
  try clear ak
  try clear al
  try clear am
  try clear an
  try clear ao
  try clear ap
  try clear aq
  try clear ar
  try clear au
  try clear av
  try clear aw
  try clear ax
  try clear ay
  obtain ⟨kq, O, rfl, HA, a3, a, HB⟩ := hcut
  cases kq with
  | zero => exact absurd HA.out (by simp [attr_Put.j0])
  | succ Q =>
   have H := HA.out
   clear HA
   simp only [attr_Put.j0] at H
   by_cases c7 : O = true
   ·subst c7
    have H1 : (some (0, some (Er.num 1), ([] : List (S184)))) = some (I, J, L) := by rw [if_pos rfl] at H; exact H
    clear H
    have H := H1
    clear H1
    simp only [Option.some.injEq, Prod.mk.injEq] at H
    obtain ⟨rfl, rfl, rfl⟩ := H
    go_wp2
    go_ret2
    exact ⟨_, er_, Kd.R_V (by first | exact Kd.R_nil _ _ _ 0 _ | exact Kd.N_nil _ _ _ _ _ | exact Kd.V_nil _ _ _ _ _ | exact Kd.Q_nil _ _ _ _ _ | exact Kd.S_nil _ _ _ _ _), bl_⟩
   ·replace c7 := Bool.eq_false_iff.mpr c7
    subst c7
    have H1 : ((attr_bit.f r 32).bind fun W => ((attr_bit.f p 16).bind fun E => ((attr_bit.f l 1).bind fun u => ((attr_sum.f Q (([(⟨W.1, W.2⟩ : S119), (⟨E.1, E.2⟩ : S119), (⟨u.1, u.2⟩ : S119)] : List (S119)))).bind fun m => ((six_Put.f (wrap64 (m + (wrap64 (4 * c))))).bind fun b => (some (b.1, b.2.1, b.2.2))))))) = some (I, J, L) := by rw [if_neg (show ¬ (false = true) by decide)] at H; exact H
    clear H
    have H := H1
    clear H1
    replace H := Option.bind_eq_some_iff.mp H
    obtain ⟨⟨x, y⟩, aD, H⟩ := H
    replace H : ((attr_bit.f p 16).bind fun E => ((attr_bit.f l 1).bind fun u => ((attr_sum.f Q (([(⟨x, y⟩ : S119), (⟨E.1, E.2⟩ : S119), (⟨u.1, u.2⟩ : S119)] : List (S119)))).bind fun m => ((six_Put.f (wrap64 (m + (wrap64 (4 * c))))).bind fun b => (some (b.1, b.2.1, b.2.2)))))) = some (I, J, L) := H
    have A8 := Z aD
    clear aD
    replace H := Option.bind_eq_some_iff.mp H
    obtain ⟨⟨z, A⟩, aE, H⟩ := H
    replace H : ((attr_bit.f l 1).bind fun u => ((attr_sum.f Q (([(⟨x, y⟩ : S119), (⟨z, A⟩ : S119), (⟨u.1, u.2⟩ : S119)] : List (S119)))).bind fun m => ((six_Put.f (wrap64 (m + (wrap64 (4 * c))))).bind fun b => (some (b.1, b.2.1, b.2.2))))) = some (I, J, L) := H
    have A9 := Z aE
    clear aE
    replace H := Option.bind_eq_some_iff.mp H
    obtain ⟨⟨C, D⟩, Y, H⟩ := H
    replace H : ((attr_sum.f Q (([(⟨x, y⟩ : S119), (⟨z, A⟩ : S119), (⟨C, D⟩ : S119)] : List (S119)))).bind fun m => ((six_Put.f (wrap64 (m + (wrap64 (4 * c))))).bind fun b => (some (b.1, b.2.1, b.2.2)))) = some (I, J, L) := H
    have aN := Z Y
    clear Y
    obtain ⟨R, F⟩ : ∃ y_ : List (S119), y_ = (([(⟨x, y⟩ : S119), (⟨z, A⟩ : S119), (⟨C, D⟩ : S119)] : List (S119))) := ⟨_, rfl⟩
    replace H : ((attr_sum.f Q R).bind fun m => ((six_Put.f (wrap64 (m + (wrap64 (4 * c))))).bind fun b => (some (b.1, b.2.1, b.2.2)))) = some (I, J, L) := by first | (rw [F]; with_reducible exact H) | (have ad := (Option.bind_some _ _).symm.trans H; rw [F]; with_reducible exact ad) | (have ad := (Option.bind_some _ _).symm.trans H; with_reducible exact ad) | with_reducible exact H | (rw [F]; exact H) | exact H
    have U := Z F
    clear F
    replace H := Option.bind_eq_some_iff.mp H
    obtain ⟨m, aa, H⟩ := H
    replace H : ((six_Put.f (wrap64 (m + (wrap64 (4 * c))))).bind fun b => (some (b.1, b.2.1, b.2.2))) = some (I, J, L) := H
    have aO := Z aa
    clear aa
    replace H := Option.bind_eq_some_iff.mp H
    obtain ⟨⟨az, aA, aB⟩, ab, H⟩ := H
    replace H : (some (az, aA, aB)) = some (I, J, L) := H
    have aP := Z ab
    clear ab
    simp only [Option.some.injEq, Prod.mk.injEq] at H
    obtain ⟨rfl, rfl, rfl⟩ := H
    try go_wp2
    have d := Z (blk_drew a.out)
    have j := Z (below_drew1 HB.out)
    clear a
    clear HB
    have a := d
    have HB := j
    clear d j
    refine start_ (n := 20) (S := fun w' => w'.cell? ⟨s, 0, none⟩ = some (.bool r) ∧ w'.cell? ⟨s, 1, none⟩ = some (.bool p) ∧ w'.cell? ⟨s, 2, none⟩ = some (.int .i64 c) ∧ w'.cell? ⟨s, 3, none⟩ = some (.bool l)) (ds := []) (bv 20 0) (by kernel_rfl) rfl rfl ⟨(blk_cell a.out 0).trans rfl, (blk_cell a.out 1).trans rfl, (blk_cell a.out 2).trans rfl, (blk_cell a.out 3).trans rfl⟩ (fun hHeld => ?_); refine with_tabW attr_Put.tab3 attr_Put.bits3 (fun HT_ HW_ => ?_)
    generalize wc.drew = a4 at a HB hHeld ⊢
    refine pure_ (i := 0) (N := some 13) (v := ?_) (a' := ?_) (bv 20 1) rfl rfl (any_of HT_.out (by kernel_rfl)) (fun _ _ _ h => h) (Or.inl ⟨by rfl, ?_⟩) ?_ ?_
    rotate_left
    ·intro w'
     go_simp
     with_reducible rfl
    rotate_left
    ·simp only [Act.put, sA, sB, sC, i64_w, i32_w]
     rfl
    refine pure_ (i := 3) (N := some 16) (v := ?_) (a' := ?_) (bv 20 9) rfl rfl (any_of HT_.out (by kernel_rfl)) (fun _ _ _ h => h) (Or.inl ⟨by rfl, ?_⟩) ?_ ?_
    rotate_left
    ·intro w'
     go_simp
     with_reducible rfl
    rotate_left
    ·simp only [Act.put, sA, sB, sC, i64_w, i32_w]
     rfl
    refine pure_ (i := 6) (N := some 19) (v := ?_) (a' := ?_) (bv 20 73) rfl rfl (any_of HT_.out (by kernel_rfl)) (fun _ _ _ h => h) (Or.inl ⟨by rfl, ?_⟩) ?_ ?_
    rotate_left
    ·intro w'
     go_simp
     with_reducible rfl
    rotate_left
    ·simp only [Act.put, sA, sB, sC, i64_w, i32_w]
     rfl
    refine pure_ (i := 11) (N := some 24) (v := ?_) (a' := ?_) (bv 20 2121) rfl rfl (any_of HT_.out (by kernel_rfl)) (fun _ _ _ h => h) (Or.inl ⟨by rfl, ?_⟩) ?_ ?_
    rotate_left
    ·intro w'
     go_simp
     with_reducible rfl
    rotate_left
    ·simp only [Act.put, sA, sB, sC, i64_w, i32_w]
     rfl
    refine take_ (i := 1) (N := some 14) (v := ?_) (a' := ?_) (bv 20 2123) rfl rfl (take_ofW HT_.out HW_.out (by kernel_rfl)) (fun _ _ _ h => h) (Or.inl ⟨by rfl, ?_⟩) hHeld ?_ ?_
    rotate_left
    ·rintro w' ⟨s0, s1, s2, s3⟩
     go_simp
     with_reducible rfl
    rotate_left
    ·simp only [Act.put, sA, sB, sC, i64_w, i32_w]
     rfl
    refine take_ (i := 4) (N := some 17) (v := ?_) (a' := ?_) (bv 20 2139) rfl rfl (take_ofW HT_.out HW_.out (by kernel_rfl)) (fun _ _ _ h => h) (Or.inl ⟨by rfl, ?_⟩) hHeld ?_ ?_
    rotate_left
    ·rintro w' ⟨s0, s1, s2, s3⟩
     go_simp
     with_reducible rfl
    rotate_left
    ·simp only [Act.put, sA, sB, sC, i64_w, i32_w]
     rfl
    refine take_ (i := 7) (N := some 20) (v := ?_) (a' := ?_) (bv 20 2267) rfl rfl (take_ofW HT_.out HW_.out (by kernel_rfl)) (fun _ _ _ h => h) (Or.inl ⟨by rfl, ?_⟩) hHeld ?_ ?_
    rotate_left
    ·rintro w' ⟨s0, s1, s2, s3⟩
     go_simp
     with_reducible rfl
    rotate_left
    ·simp only [Act.put, sA, sB, sC, i64_w, i32_w]
     rfl
    refine take_ (i := 12) (N := some 25) (v := ?_) (a' := ?_) (bv 20 6363) rfl rfl (take_ofW HT_.out HW_.out (by kernel_rfl)) (fun _ _ _ h => h) (Or.inl ⟨by rfl, ?_⟩) hHeld ?_ ?_
    rotate_left
    ·rintro w' ⟨s0, s1, s2, s3⟩
     go_simp
     with_reducible rfl
    rotate_left
    ·simp only [Act.put, sA, sB, sC, i64_w, i32_w]
     rfl
    refine pure_ (i := 13) (N := some 26) (v := ?_) (a' := ?_) (bv 20 14555) rfl rfl (any_of HT_.out (by kernel_rfl)) (fun _ _ _ h => h) (Or.inl ⟨by rfl, ?_⟩) ?_ ?_
    rotate_left
    ·intro w'
     go_simp
     with_reducible rfl
    rotate_left
    ·simp only [Act.put, sA, sB, sC, i64_w, i32_w]
     rfl
    refine one_ (i := 2) (N := some 15) (bv 20 14559) rfl rfl (one_of HT_.out (by kernel_rfl)) (by decide) (fun K hK => ?_)
    refine goes_ Tryd.func85 (by kernel_rfl) rfl #[.bool r, .int .i64 32] (by rfl) rfl rfl ag_ ?_
    with_reducible refine (attr_bit.calls r 32 x y _ A8.out).mono ?_
    rintro e a5 ⟨rfl, hb⟩
    refine ⟨_, rfl, ?_⟩
    have d := Z (kb a.out hb)
    have j := Z (below_step bl_ hb)
    clear a
    clear HB
    have a := d
    have HB := j
    clear d j
    (try clear hb)
    (try clear X)
    (try clear hk)
    (try clear hi)
    refine hK.out _ _ ⟨(blk_cell a.out 0).trans rfl, (blk_cell a.out 1).trans rfl, (blk_cell a.out 2).trans rfl, (blk_cell a.out 3).trans rfl⟩ (fun hHeld => ?_)
    clear hK K
    refine norm_ (a' := ?_) ?_ ?_
    rotate_left
    ·show Act.put _ (some 15) _ = _
     simp only [Act.put, sA, sB, sC, i64_w, i32_w]
     rfl
    refine one_ (i := 5) (N := some 18) (bv 20 14591) rfl rfl (one_of HT_.out (by kernel_rfl)) (by decide) (fun K hK => ?_)
    refine goes_ Tryd.func85 (by kernel_rfl) rfl #[.bool p, .int .i64 16] (by rfl) rfl rfl ag_ ?_
    with_reducible refine (attr_bit.calls p 16 z A _ A9.out).mono ?_
    rintro e a6 ⟨rfl, hb⟩
    refine ⟨_, rfl, ?_⟩
    have d := Z (kb a.out hb)
    have j := Z (below_step bl_ hb)
    clear a
    clear HB
    have a := d
    have HB := j
    clear d j
    (try clear hb)
    (try clear X)
    (try clear hk)
    (try clear hi)
    refine hK.out _ _ ⟨(blk_cell a.out 0).trans rfl, (blk_cell a.out 1).trans rfl, (blk_cell a.out 2).trans rfl, (blk_cell a.out 3).trans rfl⟩ (fun hHeld => ?_)
    clear hK K
    refine norm_ (a' := ?_) ?_ ?_
    rotate_left
    ·show Act.put _ (some 18) _ = _
     simp only [Act.put, sA, sB, sC, i64_w, i32_w]
     rfl
    refine one_ (i := 8) (N := some 21) (bv 20 14847) rfl rfl (one_of HT_.out (by kernel_rfl)) (by decide) (fun K hK => ?_)
    refine goes_ Tryd.func85 (by kernel_rfl) rfl #[.bool l, .int .i64 1] (by rfl) rfl rfl ag_ ?_
    with_reducible refine (attr_bit.calls l 1 C D _ aN.out).mono ?_
    rintro e a7 ⟨rfl, hb⟩
    refine ⟨_, rfl, ?_⟩
    have d := Z (kb a.out hb)
    have j := Z (below_step bl_ hb)
    clear a
    clear HB
    have a := d
    have HB := j
    clear d j
    (try clear hb)
    (try clear X)
    (try clear hk)
    (try clear hi)
    refine hK.out _ _ ⟨(blk_cell a.out 0).trans rfl, (blk_cell a.out 1).trans rfl, (blk_cell a.out 2).trans rfl, (blk_cell a.out 3).trans rfl⟩ (fun hHeld => ?_)
    clear hK K
    refine norm_ (a' := ?_) ?_ ?_
    rotate_left
    ·show Act.put _ (some 21) _ = _
     simp only [Act.put, sA, sB, sC, i64_w, i32_w]
     rfl
    refine one_ (i := 9) (N := some 22) (bv 20 15359) rfl rfl (one_of HT_.out (by kernel_rfl)) (by decide) (fun K hK => ?_)
    refine Kd.R_lit_step k119 _ 119 ?hg (N := 22) ?hd (xs := ([(⟨x, y⟩ : S119), (⟨z, A⟩ : S119), (⟨C, D⟩ : S119)] : List (S119))) (inner := [.bool x, .int .i64 y, .bool z, .int .i64 A, .bool C, .int .i64 D]) (ok := fun _ => True) (okp := fun _ => True) ?hr ?hp (fun _ hk => hk) trivial (Below.refl _ _) (Nat.le_refl _) (by simp) ?_; (case hd => rfl); (case hg => rfl); (case hr => first | (go_simp; done) | (go_simp; rfl)); (case hp => exact (Reps.c2 (show Kd.M k119 _ _ _ (⟨x, y⟩ : S119) [.bool x, .int .i64 y] from (k119_mkM _ _ _ (⟨x, y⟩ : S119) )) (Reps.c2 (show Kd.M k119 _ _ _ (⟨z, A⟩ : S119) [.bool z, .int .i64 A] from (k119_mkM _ _ _ (⟨z, A⟩ : S119) )) (Reps.c2 (show Kd.M k119 _ _ _ (⟨C, D⟩ : S119) [.bool C, .int .i64 D] from (k119_mkM _ _ _ (⟨C, D⟩ : S119) )) (Reps.none _ _)))))
    intro a1 a8 P hb hg_ hnew_
    clear hg_ hnew_
    (first | rw [← U.out] at P | (simp only [Int.reduceToNat] at P; rw [← U.out] at P))
    have d := Z (Kd.R_lower (Kd.R_newM (M := fun k_ => (w.heap.size ≤ k_)) P (below_size bl_) (fun k_ h_ => h_)) (below_size bl_))
    have j := Z (kb a.out hb)
    have B := Z (below_step bl_ hb)
    clear a
    clear HB
    have q := d
    have a := j
    have HB := B
    clear d j B
    clear hb P
    obtain ⟨ac, af, ag⟩ := Kd.R_slice q.out
    (first | subst ag | (injection ag with aF aQ aG; have aR := aF.symm; have aS := aG.symm; clear aF aQ aG; subst aR; subst aS))
    refine hK.out _ _ ⟨(blk_cell a.out 0).trans rfl, (blk_cell a.out 1).trans rfl, (blk_cell a.out 2).trans rfl, (blk_cell a.out 3).trans rfl⟩ (fun hHeld => ?_)
    clear hK K
    refine norm_ (a' := ?_) ?_ ?_
    rotate_left
    ·show Act.put _ (some 22) _ = _
     simp only [Act.put, sA, sB, sC, i64_w, i32_w]
     rfl
    refine one_ (i := 10) (N := some 23) (bv 20 16383) rfl rfl (one_of HT_.out (by kernel_rfl)) (by decide) (fun K hK => ?_)
    refine goes_ Tryd.func84 (by kernel_rfl) rfl #[.slice ac R.length af] (by rfl) rfl rfl ag_ ?_
    with_reducible refine (attr_sum.calls Q _ _ R m _ ?side1 ?side2 aO.out).mono ?_
    (case side1 => repeat (first | exact (Kd.R_reads' q.out).2.2 | (with_reducible apply pC)))
    (case side2 => exact (Kd.R_reads' q.out).2.1)
    rintro e a9 ⟨rfl, hb⟩
    refine ⟨_, rfl, ?_⟩
    have d := Z (rb q.out hb)
    have j := Z (kb a.out hb)
    have B := Z (below_step bl_ hb)
    clear q
    clear a
    clear HB
    have q := d
    have a := j
    have HB := B
    clear d j B
    (try clear hb)
    (try clear X)
    (try clear hk)
    (try clear hi)
    refine hK.out _ _ ⟨(blk_cell a.out 0).trans rfl, (blk_cell a.out 1).trans rfl, (blk_cell a.out 2).trans rfl, (blk_cell a.out 3).trans rfl⟩ (fun hHeld => ?_)
    clear hK K
    refine norm_ (a' := ?_) ?_ ?_
    rotate_left
    ·show Act.put _ (some 23) _ = _
     simp only [Act.put, sA, sB, sC, i64_w, i32_w]
     rfl
    refine pure_ (i := 14) (N := some 27) (v := ?_) (a' := ?_) (bv 20 32767) rfl rfl (any_of HT_.out (by kernel_rfl)) (fun _ _ _ h => h) (Or.inl ⟨by rfl, ?_⟩) ?_ ?_
    rotate_left
    ·intro w'
     go_simp
     with_reducible rfl
    rotate_left
    ·simp only [Act.put, sA, sB, sC, i64_w, i32_w]
     rfl
    refine one_ (i := 15) (N := some 28) (bv 20 65535) rfl rfl (one_of HT_.out (by kernel_rfl)) (by decide) (fun K hK => ?_)
    refine goes_ Tryd.func83 (by kernel_rfl) rfl #[.int .i64 (wrap64 (m + (wrap64 (4 * c))))] (by rfl) rfl rfl ag_ ?_
    with_reducible refine (six_Put.calls (wrap64 (m + (wrap64 (4 * c)))) az aA aB _ aP.out).mono ?_
    rintro e ba ⟨a2, rfl, aH, hb⟩
    refine ⟨_, rfl, ?_⟩
    have d := Z (rb q.out hb)
    have j := Z (Kd.V_lower (Kd.V_mono (ok' := fun k_ => (w.heap.size ≤ k_) ∧ some k_ ≠ (.slice ac R.length af : Value).ownBlock ∧ k_ ≠ s) aH (fun k_ hk_ => ⟨(Nat.le_trans (below_size bl_) hk_), (Kd.fresh' (Kd.R_lt (by (with_reducible repeat apply pR); exact q.out)) k_ hk_), (Kd.freshB (g := s) (o := .cells #[.bool r, .bool p, .int .i64 c, .bool l] 28 (0, 0)) (vK a.out) k_ hk_)⟩)) (below_size bl_))
    have B := Z (kb a.out hb)
    have T := Z (below_step bl_ hb)
    clear q
    clear a
    clear HB
    have q := d
    have aC := j
    have a := B
    have HB := T
    clear d j B T
    (try clear hb)
    (try clear X)
    (try clear hk)
    (try clear hi)
    (try clear aH)
    (try simp only [errW_none, errW_some])
    refine hK.out _ _ ⟨(blk_cell a.out 0).trans rfl, (blk_cell a.out 1).trans rfl, (blk_cell a.out 2).trans rfl, (blk_cell a.out 3).trans rfl⟩ (fun hHeld => ?_)
    clear hK K
    refine norm_ (a' := ?_) ?_ ?_
    rotate_left
    ·show Act.put _ (some 28) _ = _
     simp only [Act.put, sA, sB, sC, i64_w, i32_w]
     rfl
    refine pure_ (i := 16) (N := some 29) (v := ?_) (a' := ?_) (bv 20 131071) rfl rfl (any_of HT_.out (by kernel_rfl)) (fun _ _ _ h => h) (Or.inl ⟨by rfl, ?_⟩) ?_ ?_
    rotate_left
    ·intro w'
     go_simp
     with_reducible rfl
    rotate_left
    ·simp only [Act.put, sA, sB, sC, i64_w, i32_w]
     rfl
    refine pure_ (i := 17) (N := some 30) (v := ?_) (a' := ?_) (bv 20 262143) rfl rfl (any_of HT_.out (by kernel_rfl)) (fun _ _ _ h => h) (Or.inl ⟨by rfl, ?_⟩) ?_ ?_
    rotate_left
    ·intro w'
     go_simp
     with_reducible rfl
    rotate_left
    ·simp only [Act.put, sA, sB, sC, i64_w, i32_w]
     rfl
    refine pure_ (i := 18) (N := some 2) (v := ?_) (a' := ?_) (bv 20 524287) rfl rfl (any_of HT_.out (by kernel_rfl)) (fun _ _ _ h => h) (Or.inl ⟨by rfl, ?_⟩) ?_ ?_
    rotate_left
    ·intro w'
     go_simp
     with_reducible rfl
    rotate_left
    ·simp only [Act.put, sA, sB, sC, i64_w, i32_w]
     rfl
    refine pure_ (i := 19) (N := some 3) (v := ?_) (a' := ?_) (bv 20 1048575) rfl rfl (any_of HT_.out (by kernel_rfl)) (fun _ _ _ h => h) (Or.inl ⟨by rfl, ?_⟩) ?_ ?_
    rotate_left
    ·intro w'
     go_simp
     with_reducible rfl
    rotate_left
    ·simp only [Act.put, sA, sB, sC, i64_w, i32_w]
     rfl
    refine done_ (done_of HT_.out (by kernel_rfl)) ?_
    try go_wp2
    go_ret2
    exact ⟨_, er_, by (with_reducible repeat apply pV); exact Kd.V_mono aC.out (fun _ hk => hk.1), bl_⟩

end Go.Proofs.YtgboplhcjhlabaaDoor.P
