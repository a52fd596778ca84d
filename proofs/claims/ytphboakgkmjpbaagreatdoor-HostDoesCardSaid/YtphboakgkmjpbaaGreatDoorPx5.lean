/- pp.py and press2.py (wip/tools) wrote this text. -/
import Derived.Test.YtphboakgkmjpbaaGreatDoorJHostDoes1
import Derived.Test.YtphboakgkmjpbaaGreatDoorPx4
namespace Go.Proofs.YtphboakgkmjpbaaGreatDoor.P
open Go.RowKit Go.Proofs.YtphboakgkmjpbaaGreatDoorW.PrintWords Go.Proofs.YtphboakgkmjpbaaGreatDoorW.PrintLast Go.Proofs.YtphboakgkmjpbaaGreatDoorW.PrintMore
attribute [local go_sem] max2_int min2_int max_two min_two max_three min_three max_four min_four
attribute [local go_sem] Instr.field asAgg
set_option linter.unusedVariables false
set_option linter.unusedSimpArgs false
set_option maxHeartbeats 8000000
set_option maxRecDepth 100000

/-! ### six_at: function 83 -/
def six_at.f (a0 : Int) : Option (Int) := if 0 ≤ (wrap64 (2 * a0)) then (if (wrap64 (2 * a0)) < 128 then ((six_digit.f (bt (⟨#[52, 48, 99, 49, 99, 50, 99, 51, 99, 52, 99, 53, 99, 54, 99, 55, 99, 56, 99, 57, 52, 97, 52, 98, 52, 99, 52, 100, 52, 101, 52, 102, 53, 48, 100, 49, 100, 50, 100, 51, 100, 52, 100, 53, 100, 54, 100, 55, 100, 56, 100, 57, 53, 97, 53, 98, 53, 99, 53, 100, 53, 101, 53, 102, 54, 48, 54, 49, 101, 50, 101, 51, 101, 52, 101, 53, 101, 54, 101, 55, 101, 56, 101, 57, 54, 97, 54, 98, 54, 99, 54, 100, 54, 101, 54, 102, 102, 48, 102, 49, 102, 50, 102, 51, 102, 52, 102, 53, 102, 54, 102, 55, 102, 56, 102, 57, 55, 97, 55, 98, 55, 99, 55, 100, 55, 101, 55, 102]⟩ : ByteArray) (wrap64 (2 * a0)))).bind fun a => (if 0 ≤ (wrap64 ((wrap64 (2 * a0)) + 1)) then (if (wrap64 ((wrap64 (2 * a0)) + 1)) < 128 then ((six_digit.f (bt (⟨#[52, 48, 99, 49, 99, 50, 99, 51, 99, 52, 99, 53, 99, 54, 99, 55, 99, 56, 99, 57, 52, 97, 52, 98, 52, 99, 52, 100, 52, 101, 52, 102, 53, 48, 100, 49, 100, 50, 100, 51, 100, 52, 100, 53, 100, 54, 100, 55, 100, 56, 100, 57, 53, 97, 53, 98, 53, 99, 53, 100, 53, 101, 53, 102, 54, 48, 54, 49, 101, 50, 101, 51, 101, 52, 101, 53, 101, 54, 101, 55, 101, 56, 101, 57, 54, 97, 54, 98, 54, 99, 54, 100, 54, 101, 54, 102, 102, 48, 102, 49, 102, 50, 102, 51, 102, 52, 102, 53, 102, 54, 102, 55, 102, 56, 102, 57, 55, 97, 55, 98, 55, 99, 55, 100, 55, 101, 55, 102]⟩ : ByteArray) (wrap64 ((wrap64 (2 * a0)) + 1)))).bind fun b => (some ((Go.bits .or .i64 (wrap64 (a * 16)) b) % 256))) else (none)) else (none))) else (none)) else (none)
theorem six_at.calls (a0 r : Int) (w : World) (h : six_at.f a0 = some r) :
  Calls Tryz.prog 83 #[.int .i64 a0] w fun e w' => e = .returned (.int .u8 r) ∧ Drawn0 w w' := by
 unfold six_at.f at h
 have H := h
 clear h
 obtain ⟨a, j⟩ : ∃ j_ : Int, (wrap64 (2 * a0)) = j_ := ⟨_, rfl⟩
 (first | rw [j] at H | simp only [j] at H)
 have q : (IntKind.i64.wrap (2 * a0)) = a := (i64_w _).trans j
 obtain ⟨c3, H⟩ := gt_ H
 have t := decide_eq_true c3
 clear c3
 obtain ⟨c4, H⟩ := gt_ H
 have u := decide_eq_true c4
 clear c4
 replace H := bn_ H
 obtain ⟨d, n, H⟩ := H
 obtain ⟨b, g⟩ : ∃ j_ : Int, (wrap64 ((a) + 1)) = j_ := ⟨_, rfl⟩
 (first | rw [g] at H | simp only [g] at H)
 (try rw [g] at n)
 have s : (IntKind.i64.wrap ((a) + 1)) = b := (i64_w _).trans g
 obtain ⟨c8, H⟩ := gt_ H
 have v := decide_eq_true c8
 clear c8
 by_cases c9 : (b) < 128
 ·rw [if_pos c9] at H
  have x := decide_eq_true c9
  clear c9
  replace H := bn_ H
  obtain ⟨c, k, H⟩ := H
  obtain rfl := Option.some.inj H
  have p5 : 0 ≤ ((a) : Int) := od_
  have p : (a) < (128 : Int) := od_
  have y := bt_at (⟨#[52, 48, 99, 49, 99, 50, 99, 51, 99, 52, 99, 53, 99, 54, 99, 55, 99, 56, 99, 57, 52, 97, 52, 98, 52, 99, 52, 100, 52, 101, 52, 102, 53, 48, 100, 49, 100, 50, 100, 51, 100, 52, 100, 53, 100, 54, 100, 55, 100, 56, 100, 57, 53, 97, 53, 98, 53, 99, 53, 100, 53, 101, 53, 102, 54, 48, 54, 49, 101, 50, 101, 51, 101, 52, 101, 53, 101, 54, 101, 55, 101, 56, 101, 57, 54, 97, 54, 98, 54, 99, 54, 100, 54, 101, 54, 102, 102, 48, 102, 49, 102, 50, 102, 51, 102, 52, 102, 53, 102, 54, 102, 55, 102, 56, 102, 57, 55, 97, 55, 98, 55, 99, 55, 100, 55, 101, 55, 102]⟩ : ByteArray) (a)
  replace p5 := eq_true p5
  replace p := eq_true p
  go_enter Tryz.func83, Tryz.ntmps83
  go_wp2_with (first | (go_at_call 92; (with_reducible refine (six_digit.calls (bt (⟨#[52, 48, 99, 49, 99, 50, 99, 51, 99, 52, 99, 53, 99, 54, 99, 55, 99, 56, 99, 57, 52, 97, 52, 98, 52, 99, 52, 100, 52, 101, 52, 102, 53, 48, 100, 49, 100, 50, 100, 51, 100, 52, 100, 53, 100, 54, 100, 55, 100, 56, 100, 57, 53, 97, 53, 98, 53, 99, 53, 100, 53, 101, 53, 102, 54, 48, 54, 49, 101, 50, 101, 51, 101, 52, 101, 53, 101, 54, 101, 55, 101, 56, 101, 57, 54, 97, 54, 98, 54, 99, 54, 100, 54, 101, 54, 102, 102, 48, 102, 49, 102, 50, 102, 51, 102, 52, 102, 53, 102, 54, 102, 55, 102, 56, 102, 57, 55, 97, 55, 98, 55, 99, 55, 100, 55, 101, 55, 102]⟩ : ByteArray) (a)) d _ n.out).mono ?_); rintro e w' ⟨rfl, ⟨nd, rfl⟩⟩; (try first | exact ⟨rfl, _, World.drewN_drewN _ _ _⟩ | exact ⟨rfl, _, Eq.trans (World.drewN_drewN _ _ _) (congrArg (World.drewN _) (Nat.add_assoc _ _ _))⟩); have p10 : 0 ≤ ((b) : Int) := od_; have i : (b) < (128 : Int) := od_; have m := bt_at (⟨#[52, 48, 99, 49, 99, 50, 99, 51, 99, 52, 99, 53, 99, 54, 99, 55, 99, 56, 99, 57, 52, 97, 52, 98, 52, 99, 52, 100, 52, 101, 52, 102, 53, 48, 100, 49, 100, 50, 100, 51, 100, 52, 100, 53, 100, 54, 100, 55, 100, 56, 100, 57, 53, 97, 53, 98, 53, 99, 53, 100, 53, 101, 53, 102, 54, 48, 54, 49, 101, 50, 101, 51, 101, 52, 101, 53, 101, 54, 101, 55, 101, 56, 101, 57, 54, 97, 54, 98, 54, 99, 54, 100, 54, 101, 54, 102, 102, 48, 102, 49, 102, 50, 102, 51, 102, 52, 102, 53, 102, 54, 102, 55, 102, 56, 102, 57, 55, 97, 55, 98, 55, 99, 55, 100, 55, 101, 55, 102]⟩ : ByteArray) (b); replace p10 := eq_true p10; replace i := eq_true i) | (go_at_call 92; (with_reducible refine (six_digit.calls (bt (⟨#[52, 48, 99, 49, 99, 50, 99, 51, 99, 52, 99, 53, 99, 54, 99, 55, 99, 56, 99, 57, 52, 97, 52, 98, 52, 99, 52, 100, 52, 101, 52, 102, 53, 48, 100, 49, 100, 50, 100, 51, 100, 52, 100, 53, 100, 54, 100, 55, 100, 56, 100, 57, 53, 97, 53, 98, 53, 99, 53, 100, 53, 101, 53, 102, 54, 48, 54, 49, 101, 50, 101, 51, 101, 52, 101, 53, 101, 54, 101, 55, 101, 56, 101, 57, 54, 97, 54, 98, 54, 99, 54, 100, 54, 101, 54, 102, 102, 48, 102, 49, 102, 50, 102, 51, 102, 52, 102, 53, 102, 54, 102, 55, 102, 56, 102, 57, 55, 97, 55, 98, 55, 99, 55, 100, 55, 101, 55, 102]⟩ : ByteArray) (b)) c _ k.out).mono ?_); rintro e w' ⟨rfl, ⟨nd, rfl⟩⟩; (try first | exact ⟨rfl, _, World.drewN_drewN _ _ _⟩ | exact ⟨rfl, _, Eq.trans (World.drewN_drewN _ _ _) (congrArg (World.drewN _) (Nat.add_assoc _ _ _))⟩)))
  repeat (go_quiet (first | (go_at_call 92; (with_reducible refine (six_digit.calls (bt (⟨#[52, 48, 99, 49, 99, 50, 99, 51, 99, 52, 99, 53, 99, 54, 99, 55, 99, 56, 99, 57, 52, 97, 52, 98, 52, 99, 52, 100, 52, 101, 52, 102, 53, 48, 100, 49, 100, 50, 100, 51, 100, 52, 100, 53, 100, 54, 100, 55, 100, 56, 100, 57, 53, 97, 53, 98, 53, 99, 53, 100, 53, 101, 53, 102, 54, 48, 54, 49, 101, 50, 101, 51, 101, 52, 101, 53, 101, 54, 101, 55, 101, 56, 101, 57, 54, 97, 54, 98, 54, 99, 54, 100, 54, 101, 54, 102, 102, 48, 102, 49, 102, 50, 102, 51, 102, 52, 102, 53, 102, 54, 102, 55, 102, 56, 102, 57, 55, 97, 55, 98, 55, 99, 55, 100, 55, 101, 55, 102]⟩ : ByteArray) (a)) d _ n.out).mono ?_); rintro e w' ⟨rfl, ⟨nd, rfl⟩⟩; (try first | exact ⟨rfl, _, World.drewN_drewN _ _ _⟩ | exact ⟨rfl, _, Eq.trans (World.drewN_drewN _ _ _) (congrArg (World.drewN _) (Nat.add_assoc _ _ _))⟩); have p10 : 0 ≤ ((b) : Int) := od_; have i : (b) < (128 : Int) := od_; have m := bt_at (⟨#[52, 48, 99, 49, 99, 50, 99, 51, 99, 52, 99, 53, 99, 54, 99, 55, 99, 56, 99, 57, 52, 97, 52, 98, 52, 99, 52, 100, 52, 101, 52, 102, 53, 48, 100, 49, 100, 50, 100, 51, 100, 52, 100, 53, 100, 54, 100, 55, 100, 56, 100, 57, 53, 97, 53, 98, 53, 99, 53, 100, 53, 101, 53, 102, 54, 48, 54, 49, 101, 50, 101, 51, 101, 52, 101, 53, 101, 54, 101, 55, 101, 56, 101, 57, 54, 97, 54, 98, 54, 99, 54, 100, 54, 101, 54, 102, 102, 48, 102, 49, 102, 50, 102, 51, 102, 52, 102, 53, 102, 54, 102, 55, 102, 56, 102, 57, 55, 97, 55, 98, 55, 99, 55, 100, 55, 101, 55, 102]⟩ : ByteArray) (b); replace p10 := eq_true p10; replace i := eq_true i) | (go_at_call 92; (with_reducible refine (six_digit.calls (bt (⟨#[52, 48, 99, 49, 99, 50, 99, 51, 99, 52, 99, 53, 99, 54, 99, 55, 99, 56, 99, 57, 52, 97, 52, 98, 52, 99, 52, 100, 52, 101, 52, 102, 53, 48, 100, 49, 100, 50, 100, 51, 100, 52, 100, 53, 100, 54, 100, 55, 100, 56, 100, 57, 53, 97, 53, 98, 53, 99, 53, 100, 53, 101, 53, 102, 54, 48, 54, 49, 101, 50, 101, 51, 101, 52, 101, 53, 101, 54, 101, 55, 101, 56, 101, 57, 54, 97, 54, 98, 54, 99, 54, 100, 54, 101, 54, 102, 102, 48, 102, 49, 102, 50, 102, 51, 102, 52, 102, 53, 102, 54, 102, 55, 102, 56, 102, 57, 55, 97, 55, 98, 55, 99, 55, 100, 55, 101, 55, 102]⟩ : ByteArray) (b)) c _ k.out).mono ?_); rintro e w' ⟨rfl, ⟨nd, rfl⟩⟩; (try first | exact ⟨rfl, _, World.drewN_drewN _ _ _⟩ | exact ⟨rfl, _, Eq.trans (World.drewN_drewN _ _ _) (congrArg (World.drewN _) (Nat.add_assoc _ _ _))⟩))); try go_wp2_with (first | (go_at_call 92; (with_reducible refine (six_digit.calls (bt (⟨#[52, 48, 99, 49, 99, 50, 99, 51, 99, 52, 99, 53, 99, 54, 99, 55, 99, 56, 99, 57, 52, 97, 52, 98, 52, 99, 52, 100, 52, 101, 52, 102, 53, 48, 100, 49, 100, 50, 100, 51, 100, 52, 100, 53, 100, 54, 100, 55, 100, 56, 100, 57, 53, 97, 53, 98, 53, 99, 53, 100, 53, 101, 53, 102, 54, 48, 54, 49, 101, 50, 101, 51, 101, 52, 101, 53, 101, 54, 101, 55, 101, 56, 101, 57, 54, 97, 54, 98, 54, 99, 54, 100, 54, 101, 54, 102, 102, 48, 102, 49, 102, 50, 102, 51, 102, 52, 102, 53, 102, 54, 102, 55, 102, 56, 102, 57, 55, 97, 55, 98, 55, 99, 55, 100, 55, 101, 55, 102]⟩ : ByteArray) (a)) d _ n.out).mono ?_); rintro e w' ⟨rfl, ⟨nd, rfl⟩⟩; (try first | exact ⟨rfl, _, World.drewN_drewN _ _ _⟩ | exact ⟨rfl, _, Eq.trans (World.drewN_drewN _ _ _) (congrArg (World.drewN _) (Nat.add_assoc _ _ _))⟩); have p10 : 0 ≤ ((b) : Int) := od_; have i : (b) < (128 : Int) := od_; have m := bt_at (⟨#[52, 48, 99, 49, 99, 50, 99, 51, 99, 52, 99, 53, 99, 54, 99, 55, 99, 56, 99, 57, 52, 97, 52, 98, 52, 99, 52, 100, 52, 101, 52, 102, 53, 48, 100, 49, 100, 50, 100, 51, 100, 52, 100, 53, 100, 54, 100, 55, 100, 56, 100, 57, 53, 97, 53, 98, 53, 99, 53, 100, 53, 101, 53, 102, 54, 48, 54, 49, 101, 50, 101, 51, 101, 52, 101, 53, 101, 54, 101, 55, 101, 56, 101, 57, 54, 97, 54, 98, 54, 99, 54, 100, 54, 101, 54, 102, 102, 48, 102, 49, 102, 50, 102, 51, 102, 52, 102, 53, 102, 54, 102, 55, 102, 56, 102, 57, 55, 97, 55, 98, 55, 99, 55, 100, 55, 101, 55, 102]⟩ : ByteArray) (b); replace p10 := eq_true p10; replace i := eq_true i) | (go_at_call 92; (with_reducible refine (six_digit.calls (bt (⟨#[52, 48, 99, 49, 99, 50, 99, 51, 99, 52, 99, 53, 99, 54, 99, 55, 99, 56, 99, 57, 52, 97, 52, 98, 52, 99, 52, 100, 52, 101, 52, 102, 53, 48, 100, 49, 100, 50, 100, 51, 100, 52, 100, 53, 100, 54, 100, 55, 100, 56, 100, 57, 53, 97, 53, 98, 53, 99, 53, 100, 53, 101, 53, 102, 54, 48, 54, 49, 101, 50, 101, 51, 101, 52, 101, 53, 101, 54, 101, 55, 101, 56, 101, 57, 54, 97, 54, 98, 54, 99, 54, 100, 54, 101, 54, 102, 102, 48, 102, 49, 102, 50, 102, 51, 102, 52, 102, 53, 102, 54, 102, 55, 102, 56, 102, 57, 55, 97, 55, 98, 55, 99, 55, 100, 55, 101, 55, 102]⟩ : ByteArray) (b)) c _ k.out).mono ?_); rintro e w' ⟨rfl, ⟨nd, rfl⟩⟩; (try first | exact ⟨rfl, _, World.drewN_drewN _ _ _⟩ | exact ⟨rfl, _, Eq.trans (World.drewN_drewN _ _ _) (congrArg (World.drewN _) (Nat.add_assoc _ _ _))⟩))))
  go_ret
  exact ⟨by first | rfl | (simp; done) | (simp only [← j, ← g, i64_w]; rfl) | (simp only [← j, ← g] <;> (first | rfl | simp)) | (simp [*]; done), dr_⟩
 rw [if_neg c9] at H
 exact absurd H (by simp)

/-! ### six_Put: function 58 -/
def six_Put.f (a0 : Int) : Option (Int × Option Er × (List (S177))) := if a0 < 0 then (some (0, some (Er.num 1), ([] : List (S177)))) else (if a0 ≥ 64 then (some (0, some (Er.num 1), ([] : List (S177)))) else ((six_at.f a0).bind fun a => (some (a, none, ([] : List (S177))))))
theorem six_Put.calls (a0 b : Int) (c : Option Er) (d : List (S177)) (w : World) (h : six_Put.f a0 = some (b, c, d)) :
  Calls Tryz.prog 58 #[.int .i64 a0] w fun e w' => ∃ i : Value, e = .returned (.tuple #[.int .u8 b, errW i c]) ∧ Kd.V k177 177 w' w.heap.size (fun k_ => (w.heap.size ≤ k_)) i d ∧ Below w.heap.size w w' := by
 have m := Tryz.underlying34
 have n := Tryz.underlying61
 have HB := Z (Below.refl w.heap.size w)
 unfold six_Put.f at h
 have H := h
 clear h
 by_cases c2 : a0 < 0
 ·rw [if_pos c2] at H
  have j := decide_eq_true c2
  clear c2
  obtain ⟨rfl, rfl, rfl⟩ := ij3_ H
  go_enter Tryz.func58, Tryz.ntmps58
  go_wp2
  go_ret2
  exact ⟨_, er_, Kd.R_V (by first | exact Kd.R_nil _ _ _ 0 _ | exact Kd.N_nil _ _ _ _ _ | exact Kd.V_nil _ _ _ _ _ | exact Kd.Q_nil _ _ _ _ _ | exact Kd.S_nil _ _ _ _ _), bl_⟩
 rw [if_neg c2] at H
 have j := decide_eq_false c2
 clear c2
 by_cases c3 : a0 ≥ 64
 ·rw [if_pos c3] at H
  have k : decide (64 ≤ a0) = true := decide_eq_true c3
  clear c3
  obtain ⟨rfl, rfl, rfl⟩ := ij3_ H
  go_enter Tryz.func58, Tryz.ntmps58
  go_wp2
  go_ret2
  exact ⟨_, er_, Kd.R_V (by first | exact Kd.R_nil _ _ _ 0 _ | exact Kd.N_nil _ _ _ _ _ | exact Kd.V_nil _ _ _ _ _ | exact Kd.Q_nil _ _ _ _ _ | exact Kd.S_nil _ _ _ _ _), bl_⟩
 rw [if_neg c3] at H
 have k : decide (64 ≤ a0) = false := decide_eq_false c3
 clear c3
 replace H := bn_ H
 obtain ⟨a, l, H⟩ := H
 obtain ⟨rfl, rfl, rfl⟩ := ij3_ H
 go_enter Tryz.func58, Tryz.ntmps58
 go_wp2_with (first | ((with_reducible refine gF_ 83 rfl ?_); refine gd_ (some 12) Tryz.func83 (six_at.calls a0 a _ l.out) ?_; rintro e w' ⟨rfl, ⟨nd, rfl⟩⟩; refine ⟨_, rfl, ?_⟩))
 go_ret2
 exact ⟨_, er_, Kd.R_V (by first | exact Kd.R_nil _ _ _ 0 _ | exact Kd.N_nil _ _ _ _ _ | exact Kd.V_nil _ _ _ _ _ | exact Kd.Q_nil _ _ _ _ _ | exact Kd.S_nil _ _ _ _ _), bl_⟩

/-! ### attr_sum: function 59 -/
def attr_sum.l0 : Nat → Int → List (S106) → Int → Int → Option (Int)
 | 0, _, _, _, _ => none
 | k + 1, c, b, d, a => if a < d then (if 0 ≤ a then (if a < (b.length : Int) then (if (rd_T106 b a).f0 = true then (attr_sum.l0 k (wrap64 (c + ((rd_T106 b a).f1))) b d (wrap64 (a + 1))) else (attr_sum.l0 k c b d (wrap64 (a + 1)))) else (none)) else (none)) else (some c)
def attr_sum.f (k : Nat) (l0 : List (S106)) : Option (Int) := attr_sum.l0 k 0 l0 (l0.length : Int) 0
theorem attr_sum.mono_l : ∀ k, (∀ b c d e, LeO (attr_sum.l0 k b c d e) (attr_sum.l0 (k + 1) b c d e))
 | 0 => fun _ _ _ _ r h => by simp [attr_sum.l0] at h
 | k + 1 => by
  have a := attr_sum.mono_l k
  ·intro b c d e
   unfold attr_sum.l0
   repeat' first
   | (with_reducible exact a _ _ _ _)
   | (with_reducible exact LeO.refl _)
   | (with_reducible exact LeO.none _)
   | (with_reducible refine LeO.ite ?_ ?_)
   | (with_reducible refine LeO.bind ?_ (fun _ => ?_))
   | exact a _ _ _ _
   | exact LeO.none _
   | refine LeO.ite ?_ ?_
   | refine LeO.bind ?_ (fun _ => ?_)
theorem attr_sum.mono : ∀ a0 k, LeO (attr_sum.f k a0) (attr_sum.f (k + 1) a0) := by
 intro a0 k
 have a := attr_sum.mono_l k
 unfold attr_sum.f
 repeat' first
   | (with_reducible exact a _ _ _ _)
   | (with_reducible exact LeO.refl _)
   | (with_reducible exact LeO.none _)
   | (with_reducible refine LeO.ite ?_ ?_)
   | (with_reducible refine LeO.bind ?_ (fun _ => ?_))
   | exact a _ _ _ _
   | exact LeO.none _
   | refine LeO.ite ?_ ?_
   | refine LeO.bind ?_ (fun _ => ?_)
theorem attr_sum.calls (k : Nat) (K : Option Addr) (c0 : Nat) (l0 : List (S106)) (r : Int) (w : World) (hr0 : Kd.C k106 w K l0.length l0) (D : l0.length ≤ c0) (h : attr_sum.f k l0 = some r) :
  Calls Tryz.prog 59 #[.slice K l0.length c0] w fun e w' => e = .returned (.int .i64 r) ∧ Below w.heap.size w w' := by
 have Q := Tryz.underlying106
 have A := Z hr0
 have V := Z D
 clear hr0 D
 have HB := Z (Below.refl w.heap.size w)
 unfold attr_sum.f at h
 have H := h
 clear h
 have H' := Z H
 clear H
 go_enter Tryz.func59, Tryz.ntmps59
 go_wp2
 go_loopg [3, 8] k (fun kq T U w' => ∃ (d : Int) (a : Int), T = .int .i64 d ∧ U = .int .i64 a ∧ Aside0 (attr_sum.l0 kq d l0 (l0.length : Int) a = some r) ∧ Aside0 (kq ≤ k) ∧ Aside0 (Below w.heap.size w w'))
 case atStart => exact ⟨(0), (0), (dn_), (dn_), H', ⟨Nat.le_refl _⟩, ⟨bl_⟩⟩
 case round =>
  clear H'
  obtain ⟨d, a, rfl, rfl, HA, u, HB⟩ := hrel
  cases gk with
  | zero => exact absurd HA.out (by simp [attr_sum.l0])
  | succ k1 =>
   have H := HA.out
   clear HA
   simp only [attr_sum.l0] at H
   by_cases c2 : a < (l0.length : Int)
   rotate_left
   ·rw [if_neg c2] at H
    have E := decide_eq_false c2
    clear c2
    obtain rfl := Option.some.inj H
    go_wp2
    go_ret
    exact ⟨er_, bl_⟩
   rw [if_pos c2] at H
   have E := decide_eq_true c2
   clear c2
   obtain ⟨c3, H⟩ := gt_ H
   have R := decide_eq_true c3
   clear c3
   obtain ⟨c4, H⟩ := gt_ H
   have S := decide_eq_true c4
   clear c4
   obtain ⟨B, s⟩ : ∃ b_ : Bool, b_ = ((rd_T106 l0 a).f0) := ⟨_, rfl⟩
   replace H : (if B = true then (attr_sum.l0 k1 (wrap64 (d + ((rd_T106 l0 a).f1))) l0 (l0.length : Int) (wrap64 (a + 1))) else (attr_sum.l0 k1 d l0 (l0.length : Int) (wrap64 (a + 1)))) = some r := by rw [← s] at H; exact H
   have v := Z s
   clear s
   by_cases c6 : B = true
   ·subst c6
    rw [if_pos rfl] at H
    have H' := Z H
    clear H
    have g : 0 ≤ (a : Int) := od_
    have i : a < (l0.length : Int) := od_
    obtain ⟨z, q, b, c⟩ := at_T106 A.out a g i
    (try rw [← v.out] at b)
    cases q
    replace b := hc_ HB b
    replace c := hc_ HB c
    replace g := eq_true g
    replace i := eq_true i
    go_wp2_with (first | ((with_reducible refine gD_ 5 rfl ?_); refine bx_ 5 106 #[.bool false, .int .i64 0] ?_; intro j hg w7 hbox hb; have l := Z hbox; have y := ln' w hg; replace HB := bs_ hb; clear hb hbox hg; have L := cells2 l.out))
    go_roundg k1
    case measure => have := u.out; omega
    case rel => exact ⟨(wrap64 (d + ((rd_T106 l0 a).f1))), (wrap64 (a + 1)), (dn_), (dn_), H', ⟨by have := u.out; omega⟩, ⟨bl_⟩⟩
   replace c6 := Bool.eq_false_iff.mpr c6
   subst c6
   rw [iF_] at H
   have H' := Z H
   clear H
   have g : 0 ≤ (a : Int) := od_
   have i : a < (l0.length : Int) := od_
   obtain ⟨z, q, b, c⟩ := at_T106 A.out a g i
   (try rw [← v.out] at b)
   cases q
   replace b := hc_ HB b
   replace c := hc_ HB c
   replace g := eq_true g
   replace i := eq_true i
   go_wp2_with (first | ((with_reducible refine gD_ 5 rfl ?_); refine bx_ 5 106 #[.bool false, .int .i64 0] ?_; intro j hg W hbox hb; have l := Z hbox; have y := ln' w hg; replace HB := bs_ hb; clear hb hbox hg; have F := cells2 l.out))
   go_roundg k1
   case measure => have := u.out; omega
   case rel => exact ⟨(d), (wrap64 (a + 1)), (dn_), (dn_), H', ⟨by have := u.out; omega⟩, ⟨bl_⟩⟩

/-! ### attr_bit: function 60 -/
def attr_bit.f (a0 : Bool) (a1 : Int) : Option (Bool × Int) := some (a0, a1)
theorem attr_bit.calls (a0 : Bool) (a1 : Int) (j : Bool) (k : Int) (w : World) (h : attr_bit.f a0 a1 = some (j, k)) :
  Calls Tryz.prog 60 #[.bool a0, .int .i64 a1] w fun e w' => e = .returned (.agg #[.bool j, .int .i64 k]) ∧ Below w.heap.size w w' := by
 have r := Tryz.underlying106
 have HB := Z (Below.refl w.heap.size w)
 unfold attr_bit.f at h
 have H := h
 clear h
 obtain ⟨rfl, rfl⟩ := ij2_ H
 go_enter Tryz.func60, Tryz.ntmps60
 go_wp2_with (first | ((with_reducible refine gD_ 4 rfl ?_); refine bx_ 4 106 #[.bool false, .int .i64 0] ?_; intro a hg w3 hbox hb; have b := Z hbox; have q := ln' w hg; replace HB := bs_ hb; clear hb hbox hg; have l := cells2 b.out))
 refine bodyPost_ret (results_cell_row rfl _ _ a 106 #[.bool a0, .int .i64 a1] (0, 0) _ rfl (by (with_reducible repeat apply pK); refine blk_put (cs := #[.bool a0, .int .i64 0]) ?_ 1 _ rfl; (with_reducible repeat apply pK); refine blk_put (cs := #[.bool false, .int .i64 0]) ?_ 0 _ rfl; (with_reducible repeat apply pK); exact b.out) Tryz.underlying106 rfl (by kernel_rfl)) rfl ?_
 exact ⟨er_, bl_⟩

/-! ### attr_Put: function 62 -/
def attr_Put.j0 : Nat → Bool → Bool → Bool → Int → Bool → Option (Int × Option Er × (List (S177)))
 | 0, _, _, _, _, _ => none
 | k + 1, x11, e, g, h, i => if x11 = true then (some (0, some (Er.num 1), ([] : List (S177)))) else ((attr_bit.f e 32).bind fun b => ((attr_bit.f g 16).bind fun c => ((attr_bit.f i 1).bind fun d => ((attr_sum.f k (([(⟨b.1, b.2⟩ : S106), (⟨c.1, c.2⟩ : S106), (⟨d.1, d.2⟩ : S106)] : List (S106)))).bind fun j => ((six_Put.f (wrap64 (j + (wrap64 (4 * h))))).bind fun a => (some (a.1, a.2.1, a.2.2)))))))
def attr_Put.f (k : Nat) (b c : Bool) (a : Int) (d : Bool) : Option (Int × Option Er × (List (S177))) := if a < 0 then (attr_Put.j0 k true b c a d) else (attr_Put.j0 k (decide (a > 3)) b c a d)
theorem attr_Put.mono_l : ∀ k, (∀ b c d e f, LeO (attr_Put.j0 k b c d e f) (attr_Put.j0 (k + 1) b c d e f))
 | 0 => fun _ _ _ _ _ r h => by simp [attr_Put.j0] at h
 | k + 1 => by
  have a := attr_Put.mono_l k
  ·intro b c d e f
   unfold attr_Put.j0
   repeat' first
   | (with_reducible exact a _ _ _ _ _)
   | (with_reducible exact attr_sum.mono _ _)
   | (with_reducible exact LeO.refl _)
   | (with_reducible exact LeO.none _)
   | (with_reducible refine LeO.ite ?_ ?_)
   | (with_reducible refine LeO.bind ?_ (fun _ => ?_))
   | exact a _ _ _ _ _
   | exact attr_sum.mono _ _
   | exact LeO.none _
   | refine LeO.ite ?_ ?_
   | refine LeO.bind ?_ (fun _ => ?_)
theorem attr_Put.mono : ∀ a0 a1 b c k, LeO (attr_Put.f k a0 a1 b c) (attr_Put.f (k + 1) a0 a1 b c) := by
 intro a0 a1 b c k
 have a := attr_Put.mono_l k
 unfold attr_Put.f
 repeat' first
   | (with_reducible exact a _ _ _ _ _)
   | (with_reducible exact attr_sum.mono _ _)
   | (with_reducible exact LeO.refl _)
   | (with_reducible exact LeO.none _)
   | (with_reducible refine LeO.ite ?_ ?_)
   | (with_reducible refine LeO.bind ?_ (fun _ => ?_))
   | exact a _ _ _ _ _
   | exact attr_sum.mono _ _
   | exact LeO.none _
   | refine LeO.ite ?_ ?_
   | refine LeO.bind ?_ (fun _ => ?_)
def attr_Put.T3 : Bool × List (List Nat × List Nat) := (true, [([], []), ([0], [0]), ([1], [1]), ([], []), ([3], [3]), ([4, 2], [4]), ([], []), ([6], [6]), ([7, 5], [7]), ([2, 5, 8], [2, 5, 8]), ([9, 8], [9]), ([], []), ([11], [11]), ([12], [12]), ([10, 13], [10, 13]), ([14, 10], [14]), ([15], [15]), ([15], [15]), ([16, 15, 0, 1, 2, 3, 4, 5, 6, 7, 8, 9, 10, 11, 12, 13, 14, 15, 16, 17], [16]), ([17, 18, 0, 1, 2, 3, 4, 5, 6, 7, 8, 9, 10, 11, 12, 13, 14, 15, 16, 17, 18], [17])])
def attr_Put.B3 : List Nat := [0, 1, 3, 0, 8, 31, 0, 64, 255, 511, 1023, 0, 2048, 6144, 16383, 32767, 65535, 65535, 262143, 524287]
theorem attr_Put.tab3 : rtab .any (opsOf Tryz.f62 3) = attr_Put.T3 := by kernel_rfl
theorem attr_Put.bits3 : waitsOk attr_Put.T3.2 attr_Put.B3 = true := by kernel_rfl
theorem attr_Put.calls (k : Nat) (r p : Bool) (c : Int) (l : Bool) (I : Int) (J : Option Er) (L : List (S177)) (w : World) (h : attr_Put.f k r p c l = some (I, J, L)) :
  Calls Tryz.prog 62 #[.agg #[.bool r, .bool p, .int .i64 c, .bool l]] w fun e w' => ∃ aI : Value, e = .returned (.tuple #[.int .u8 I, errW aI J]) ∧ Kd.V k177 177 w' w.heap.size (fun k_ => (w.heap.size ≤ k_)) aI L ∧ Below w.heap.size w w' := by
 have aZ := Tryz.underlying45
 have aY := Tryz.underlying34
 have a0 := Tryz.underlying61
 have HB := Z (Below.refl w.heap.size w)
 unfold attr_Put.f at h
 have H := h
 clear h
 have ae := Z H
 clear H
 go_enter Tryz.func62, Tryz.ntmps62
 go_upto_region 1 with (first | ((with_reducible refine gD_ 1 rfl ?_); refine bx_ 1 45 #[.bool r, .bool p, .int .i64 c, .bool l] ?_; intro s hg w3 hbox hb; have a := Z hbox; have aV := ln' w hg; replace HB := bs_ hb; clear hb hbox hg))
 (try simp only [Act.put, sA, sB, sC])
 go_cut [11] (fun aT wc => ∃ (kq : Nat) (O : Bool), aT = .bool O ∧ Aside0 (attr_Put.j0 kq O r p c l = some (I, J, L)) ∧ Aside0 (kq ≤ k) ∧ Aside0 (wc.heap[s]? = some (.cells #[.bool r, .bool p, .int .i64 c, .bool l] 45 (0, 0))) ∧ Aside0 (Below w.heap.size w wc))
 case first =>
  have H := ae.out
  clear ae
  by_cases c4 : c < 0
  ·rw [if_pos c4] at H
   have G := decide_eq_true c4
   clear c4
   (first | rw [G] | (simp only [i64_w, i32_w]; rw [G]) | skip)
   have H' := Z H
   clear H
   have ah := cells4 a.out
   go_wp2
   go_meet
   case rel => exact ⟨_, (true), (dn_), H', ⟨by first | omega | exact Nat.le_refl _⟩, ⟨vK a.out⟩, ⟨bl_⟩⟩
  rw [if_neg c4] at H
  have G := decide_eq_false c4
  clear c4
  (first | rw [G] | (simp only [i64_w, i32_w]; rw [G]) | skip)
  have H' := Z H
  clear H
  have al := cells4 a.out
  go_wp2
  go_meet
  case rel => exact ⟨_, (decide (c > 3)), (dn_), H', ⟨by first | omega | exact Nat.le_refl _⟩, ⟨vK a.out⟩, ⟨bl_⟩⟩
 clear ae
 obtain ⟨kq, O, rfl, HA, a3, a, HB⟩ := hcut
 cases kq with
 | zero => exact absurd HA.out (by simp [attr_Put.j0])
 | succ Q =>
  have H := HA.out
  clear HA
  simp only [attr_Put.j0] at H
  by_cases c7 : O = true
  ·subst c7
   rw [if_pos rfl] at H
   obtain ⟨rfl, rfl, rfl⟩ := ij3_ H
   go_wp2
   go_ret2
   exact ⟨_, er_, Kd.R_V (by first | exact Kd.R_nil _ _ _ 0 _ | exact Kd.N_nil _ _ _ _ _ | exact Kd.V_nil _ _ _ _ _ | exact Kd.Q_nil _ _ _ _ _ | exact Kd.S_nil _ _ _ _ _), bl_⟩
  replace c7 := Bool.eq_false_iff.mpr c7
  subst c7
  rw [iF_] at H
  replace H := bn_ H
  obtain ⟨⟨x, y⟩, A8, H⟩ := H
  try dsimp only at H
  replace H := bn_ H
  obtain ⟨⟨z, A⟩, A9, H⟩ := H
  try dsimp only at H
  replace H := bn_ H
  obtain ⟨⟨C, D⟩, aN, H⟩ := H
  try dsimp only at H
  obtain ⟨R, F⟩ : ∃ y_ : List (S106), y_ = (([(⟨x, y⟩ : S106), (⟨z, A⟩ : S106), (⟨C, D⟩ : S106)] : List (S106))) := ⟨_, rfl⟩
  rw [← F] at H
  try replace H := sb_ H
  have U := Z F
  clear F
  replace H := bn_ H
  obtain ⟨m, aO, H⟩ := H
  replace H := bn_ H
  obtain ⟨⟨az, aA, aB⟩, aP, H⟩ := H
  try dsimp only at H
  obtain ⟨rfl, rfl, rfl⟩ := ij3_ H
  try go_wp2
  replace a := Z (blk_drew a.out)
  replace HB := Z (below_drew1 HB.out)
  refine start_ (n := 20) (S := fun w' => w'.cell? ⟨s, 0, none⟩ = some (.bool r) ∧ w'.cell? ⟨s, 1, none⟩ = some (.bool p) ∧ w'.cell? ⟨s, 2, none⟩ = some (.int .i64 c) ∧ w'.cell? ⟨s, 3, none⟩ = some (.bool l)) (ds := []) (bv 20 0) (by kernel_rfl) rfl rfl hd_ (fun hHeld => ?_); refine with_tabW attr_Put.tab3 attr_Put.bits3 (fun HT_ HW_ => ?_)
  generalize wc.drew = a4 at a HB hHeld ⊢
  refine pT_ HT_ 0 20 1 (some 13) ?_
  refine pT_ HT_ 3 20 9 (some 16) ?_
  refine pT_ HT_ 6 20 73 (some 19) ?_
  refine pT_ HT_ 11 20 2121 (some 24) ?_
  refine tT_ HT_ HW_ hHeld 1 20 2123 (some 14) ?_
  refine tT_ HT_ HW_ hHeld 4 20 2139 (some 17) ?_
  refine tT_ HT_ HW_ hHeld 7 20 2267 (some 20) ?_
  refine tT_ HT_ HW_ hHeld 12 20 6363 (some 25) ?_
  refine pT_ HT_ 13 20 14555 (some 26) ?_
  refine oT_ HT_ 2 20 14559 (some 15) (fun K hK => ?_)
  refine goes_ Tryz.func60 (by kernel_rfl) rfl #[.bool r, .int .i64 32] (by rfl) rfl rfl ag_ ?_
  with_reducible refine (attr_bit.calls r 32 x y _ A8.out).mono ?_
  rintro e a5 ⟨rfl, hb⟩
  refine ⟨_, rfl, ?_⟩
  replace a := kb' a hb
  replace HB := bs_ hb
  (try clear hb)
  (try clear X)
  (try clear hk)
  (try clear hi)
  refine hK.out _ _ hd_ (fun hHeld => ?_)
  clear hK K
  refine nA_ (some 15) ?_
  refine oT_ HT_ 5 20 14591 (some 18) (fun K hK => ?_)
  refine goes_ Tryz.func60 (by kernel_rfl) rfl #[.bool p, .int .i64 16] (by rfl) rfl rfl ag_ ?_
  with_reducible refine (attr_bit.calls p 16 z A _ A9.out).mono ?_
  rintro e a6 ⟨rfl, hb⟩
  refine ⟨_, rfl, ?_⟩
  replace a := kb' a hb
  replace HB := bs_ hb
  (try clear hb)
  (try clear X)
  (try clear hk)
  (try clear hi)
  refine hK.out _ _ hd_ (fun hHeld => ?_)
  clear hK K
  refine nA_ (some 18) ?_
  refine oT_ HT_ 8 20 14847 (some 21) (fun K hK => ?_)
  refine goes_ Tryz.func60 (by kernel_rfl) rfl #[.bool l, .int .i64 1] (by rfl) rfl rfl ag_ ?_
  with_reducible refine (attr_bit.calls l 1 C D _ aN.out).mono ?_
  rintro e a7 ⟨rfl, hb⟩
  refine ⟨_, rfl, ?_⟩
  replace a := kb' a hb
  replace HB := bs_ hb
  (try clear hb)
  (try clear X)
  (try clear hk)
  (try clear hi)
  refine hK.out _ _ hd_ (fun hHeld => ?_)
  clear hK K
  refine nA_ (some 21) ?_
  refine oT_ HT_ 9 20 15359 (some 22) (fun K hK => ?_)
  refine Kd.R_lit_step k106 _ 106 ?hg (N := 22) ?hd (xs := ([(⟨x, y⟩ : S106), (⟨z, A⟩ : S106), (⟨C, D⟩ : S106)] : List (S106))) (inner := [.bool x, .int .i64 y, .bool z, .int .i64 A, .bool C, .int .i64 D]) (ok := fun _ => True) (okp := fun _ => True) ?hr ?hp (fun _ hk => hk) trivial (Below.refl _ _) (Nat.le_refl _) (by simp) ?_; (case hd => rfl); (case hg => rfl); (case hr => first | (go_simp; done) | (go_simp; rfl)); (case hp => exact (Reps.c2 (show Kd.M k106 _ _ _ (⟨x, y⟩ : S106) [.bool x, .int .i64 y] from (k106_mkM _ _ _ (⟨x, y⟩ : S106) )) (Reps.c2 (show Kd.M k106 _ _ _ (⟨z, A⟩ : S106) [.bool z, .int .i64 A] from (k106_mkM _ _ _ (⟨z, A⟩ : S106) )) (Reps.c2 (show Kd.M k106 _ _ _ (⟨C, D⟩ : S106) [.bool C, .int .i64 D] from (k106_mkM _ _ _ (⟨C, D⟩ : S106) )) (Reps.none _ _)))))
  intro a1 a8 P hb hg_ hnew_
  clear hg_ hnew_
  (first | rw [← U.out] at P | (simp only [Int.reduceToNat] at P; rw [← U.out] at P))
  have d := rn_ w P
  have j := kb' a hb
  have B := bs_ hb
  clear a
  clear HB
  have q := d
  have a := j
  have HB := B
  clear d j B
  clear hb P
  obtain ⟨ac, af, ag⟩ := Kd.R_slice q.out
  (first | subst ag | (injection ag with aF aQ aG; have aR := aF.symm; have aS := aG.symm; clear aF aQ aG; subst aR; subst aS))
  refine hK.out _ _ hd_ (fun hHeld => ?_)
  clear hK K
  refine nA_ (some 22) ?_
  refine oT_ HT_ 10 20 16383 (some 23) (fun K hK => ?_)
  refine goes_ Tryz.func59 (by kernel_rfl) rfl #[.slice ac R.length af] (by rfl) rfl rfl ag_ ?_
  with_reducible refine (attr_sum.calls Q _ _ R m _ ?side1 ?side2 aO.out).mono ?_
  (case side1 => repeat (first | exact (Kd.R_reads' q.out).2.2 | (with_reducible apply pC)))
  (case side2 => exact (Kd.R_reads' q.out).2.1)
  rintro e a9 ⟨rfl, hb⟩
  refine ⟨_, rfl, ?_⟩
  replace q := rb' q hb
  replace a := kb' a hb
  replace HB := bs_ hb
  (try clear hb)
  (try clear X)
  (try clear hk)
  (try clear hi)
  refine hK.out _ _ hd_ (fun hHeld => ?_)
  clear hK K
  refine nA_ (some 23) ?_
  refine pT_ HT_ 14 20 32767 (some 27) ?_
  refine oT_ HT_ 15 20 65535 (some 28) (fun K hK => ?_)
  refine goes_ Tryz.func58 (by kernel_rfl) rfl #[.int .i64 (wrap64 (m + (wrap64 (4 * c))))] (by rfl) rfl rfl ag_ ?_
  with_reducible refine (six_Put.calls (wrap64 (m + (wrap64 (4 * c)))) az aA aB _ aP.out).mono ?_
  rintro e ba ⟨a2, rfl, aH, hb⟩
  refine ⟨_, rfl, ?_⟩
  have d := rb' q hb
  have j := Z (Kd.V_lower (Kd.V_mono (ok' := fun k_ => (w.heap.size ≤ k_) ∧ some k_ ≠ (.slice ac R.length af : Value).ownBlock ∧ k_ ≠ s) aH (fun k_ hk_ => ⟨(Nat.le_trans (below_size bl_) hk_), (Kd.fresh' (Kd.R_lt (by (with_reducible repeat apply pR); exact q.out)) k_ hk_), (Kd.freshB (g := s) (o := .cells #[.bool r, .bool p, .int .i64 c, .bool l] 45 (0, 0)) (vK a.out) k_ hk_)⟩)) (below_size bl_))
  have B := kb' a hb
  have T := bs_ hb
  clear q
  clear a
  clear HB
  have q := d
  have aC := j
  have a := B
  have HB := T
  clear d j B T
  (try clear hb)
  (try clear X)
  (try clear hk)
  (try clear hi)
  (try clear aH)
  (try simp only [errW_none, errW_some])
  refine hK.out _ _ hd_ (fun hHeld => ?_)
  clear hK K
  refine nA_ (some 28) ?_
  refine pT_ HT_ 16 20 131071 (some 29) ?_
  refine pT_ HT_ 17 20 262143 (some 30) ?_
  refine pT_ HT_ 18 20 524287 (some 2) ?_
  refine pT_ HT_ 19 20 1048575 (some 3) ?_
  refine done_ (done_of HT_.out (by kernel_rfl)) ?_
  try go_wp2
  go_ret2
  exact ⟨_, er_, by (with_reducible repeat apply pV); exact Kd.V_mono aC.out im_, bl_⟩

/-! ### attr_Char: function 64 -/
def attr_Char.f (a0 : Int) : Option (Bool) := if a0 = 0 then (some true) else (if a0 = 28 then (some true) else (if a0 = 30 then (some true) else (if a0 ≥ 64 then (some (a0 != 255)) else (some false))))
theorem attr_Char.calls (a0 : Int) (r : Bool) (w : World) (h : attr_Char.f a0 = some r) :
  Calls Tryz.prog 64 #[.int .u8 a0] w fun e w' => e = .returned (.bool r) ∧ Drawn0 w w' := by
 unfold attr_Char.f at h
 have H := h
 clear h
 by_cases c2 : a0 = 0
 ·rw [if_pos c2] at H
  obtain ⟨a, b⟩ := eT_ c2
  clear c2
  obtain rfl := Option.some.inj H
  go_enter Tryz.func64, Tryz.ntmps64
  go_wp2
  go_ret
  exact ⟨dn_, dr_⟩
 rw [if_neg c2] at H
 obtain ⟨a, b⟩ := eF_ c2
 by_cases c3 : a0 = 28
 ·rw [if_pos c3] at H
  obtain ⟨c, d⟩ := eT_ c3
  clear c3
  obtain rfl := Option.some.inj H
  go_enter Tryz.func64, Tryz.ntmps64
  go_wp2
  go_ret
  exact ⟨dn_, dr_⟩
 rw [if_neg c3] at H
 obtain ⟨c, d⟩ := eF_ c3
 by_cases c4 : a0 = 30
 ·rw [if_pos c4] at H
  obtain ⟨g, i⟩ := eT_ c4
  clear c4
  obtain rfl := Option.some.inj H
  go_enter Tryz.func64, Tryz.ntmps64
  go_wp2
  go_ret
  exact ⟨dn_, dr_⟩
 rw [if_neg c4] at H
 obtain ⟨g, i⟩ := eF_ c4
 by_cases c5 : a0 ≥ 64
 ·rw [if_pos c5] at H
  have j : decide (64 ≤ a0) = true := decide_eq_true c5
  clear c5
  obtain rfl := Option.some.inj H
  go_enter Tryz.func64, Tryz.ntmps64
  go_wp2
  go_ret
  exact ⟨dn_, dr_⟩
 rw [if_neg c5] at H
 have j : decide (64 ≤ a0) = false := decide_eq_false c5
 clear c5
 obtain rfl := Option.some.inj H
 go_enter Tryz.func64, Tryz.ntmps64
 go_wp2
 go_ret
 exact ⟨dn_, dr_⟩

/-! ### order_Right_1: function 63 -/
def order_Right_1.f (a0 : Int) : Option (Bool) := (attr_Char.f a0).bind fun a => (some (!a))
theorem order_Right_1.calls (a0 : Int) (r : Bool) (w : World) (h : order_Right_1.f a0 = some r) :
  Calls Tryz.prog 63 #[.int .u8 a0] w fun e w' => e = .returned (.bool r) ∧ Drawn0 w w' := by
 unfold order_Right_1.f at h
 have H := h
 clear h
 replace H := bn_ H
 obtain ⟨a, c, H⟩ := H
 obtain rfl := Option.some.inj H
 go_enter Tryz.func63, Tryz.ntmps63
 go_wp2_with (first | ((with_reducible refine gF_ 64 rfl ?_); refine gd_ (some 4) Tryz.func64 (attr_Char.calls a0 a _ c.out) ?_; rintro e w' ⟨rfl, ⟨nd, rfl⟩⟩; refine ⟨_, rfl, ?_⟩))
 go_ret
 exact ⟨dn_, dr_⟩

end Go.Proofs.YtphboakgkmjpbaaGreatDoor.P
