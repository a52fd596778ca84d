/- pp.py and press2.py (wip/tools) wrote this text. -/
import Derived.Test.YtphboakgkmjpbaaGreatDoorJHostDoes1
import Derived.Test.YtphboakgkmjpbaaGreatDoorPx16
namespace Go.Proofs.YtphboakgkmjpbaaGreatDoor.P
open Go.RowKit Go.Proofs.YtphboakgkmjpbaaGreatDoorW.PrintWords Go.Proofs.YtphboakgkmjpbaaGreatDoorW.PrintLast Go.Proofs.YtphboakgkmjpbaaGreatDoorW.PrintMore
attribute [local go_sem] max2_int min2_int max_two min_two max_three min_three max_four min_four
attribute [local go_sem] Instr.field asAgg
set_option linter.unusedVariables false
set_option linter.unusedSimpArgs false
set_option maxHeartbeats 8000000
set_option maxRecDepth 100000

/-! ### shutterref10_Few: function 5 -/
def shutterref10_Few.f (k : Nat) (b c : Int) (a : List (S47)) (d : Int) (e g : Bool) : Option (Bool) := if (a.length : Int) ≤ 200 then ((shutterref10_Right.f k b c a d e g).bind fun h => (some h)) else (some false)
theorem shutterref10_Few.mono : ∀ a0 a1 a b a4 c k, LeO (shutterref10_Few.f k a0 a1 a b a4 c) (shutterref10_Few.f (k + 1) a0 a1 a b a4 c) := by
 intro a0 a1 a b a4 c k
 unfold shutterref10_Few.f
 repeat' first
   | (with_reducible exact shutterref10_Right.mono _ _ _ _ _ _ _)
   | (with_reducible exact LeO.refl _)
   | (with_reducible exact LeO.none _)
   | (with_reducible refine LeO.ite ?_ ?_)
   | (with_reducible refine LeO.bind ?_ (fun _ => ?_))
   | exact shutterref10_Right.mono _ _ _ _ _ _ _
   | exact LeO.none _
   | refine LeO.ite ?_ ?_
   | refine LeO.bind ?_ (fun _ => ?_)
theorem shutterref10_Few.calls (k : Nat) (d g : Int) (o : Option Addr) (p : Nat) (a : List (S47)) (i : Int) (j l r : Bool) (w : World) (x : Kd.C k47 w o a.length a) (v : a.length ≤ p) (h : shutterref10_Few.f k d g a i j l = some r) :
  Calls Tryz.prog 5 #[.agg #[.int .i64 d, .int .i64 g, .slice o a.length p, .int .i64 i, .bool j, .bool l]] w fun e w' => e = .returned (.bool r) ∧ Below w.heap.size w w' := by
 have ai := Tryz.underlying24
 have B := Z x
 have A := Z v
 clear x v
 have HB := Z (Below.refl w.heap.size w)
 unfold shutterref10_Few.f at h
 have H := h
 clear h
 by_cases c2 : (a.length : Int) ≤ 200
 ·rw [if_pos c2] at H
  have E := decide_eq_true c2
  have F : decide (a.length ≤ 200) = true := decide_eq_true (by omega)
  clear c2
  replace H := bn_ H
  obtain ⟨q, A3, H⟩ := H
  obtain rfl := Option.some.inj H
  go_enter Tryz.func5, Tryz.ntmps5
  go_wp2_with (first | ((with_reducible refine gD_ 1 rfl ?_); refine bx_ 1 24 #[.int .i64 d, .int .i64 g, .slice o a.length p, .int .i64 i, .bool j, .bool l] ?_; intro c hg w4 hbox hb; have b := Z hbox; have z := ln' w hg; replace HB := bs_ hb; clear hb hbox hg; have G := cells6 b.out) | (go_at_call 13; (with_reducible refine (shutterref10_Right.calls k d g _ _ a i j l q _ ?side1 ?side2 A3.out).mono ?_); (case side1 => repeat (first | exact (Kd.C_below B.out HB.out) | (with_reducible apply pC))); (case side2 => exact A.out); rintro e w6 ⟨rfl, hb⟩; replace b := kb' b hb; replace HB := bs_ hb; (try clear hb)))
  go_ret
  exact ⟨er_, bl_⟩
 rw [if_neg c2] at H
 have E := decide_eq_false c2
 have F : decide (a.length ≤ 200) = false := decide_eq_false (by omega)
 clear c2
 obtain rfl := Option.some.inj H
 go_enter Tryz.func5, Tryz.ntmps5
 go_wp2_with (first | ((with_reducible refine gD_ 1 rfl ?_); refine bx_ 1 24 #[.int .i64 d, .int .i64 g, .slice o a.length p, .int .i64 i, .bool j, .bool l] ?_; intro c hg w7 hbox hb; have b := Z hbox; have z := ln' w hg; replace HB := bs_ hb; clear hb hbox hg; have O := cells6 b.out))
 go_ret
 exact ⟨er_, bl_⟩

/-! ### shutterref08_Few: function 6 -/
mutual
def shutterref08_Few.l0 : Nat → Int → Int → Bool → Bool → Bool → List (S49) → Option (Bool)
 | 0, _, _, _, _, _, _ => none
 | k + 1, f, b, c, d, e, a => if f < (a.length : Int) then (shutterref08_Few.j1 k f (decide (f < 100)) b c d e a) else (shutterref08_Few.j1 k f false b c d e a)
def shutterref08_Few.j1 : Nat → Int → Bool → Int → Bool → Bool → Bool → List (S49) → Option (Bool)
 | 0, _, _, _, _, _, _, _ => none
 | k + 1, f, x12, b, c, d, e, a => if x12 = true then (if 0 ≤ f then (if f < (a.length : Int) then (if (((rd_T49 a f).f1).length : Int) > 9000 then (some false) else (shutterref08_Few.l0 k (wrap64 (f + 1)) b c d e a)) else (none)) else (none)) else (some (decide ((a.length : Int) ≤ 60)))
end
def shutterref08_Few.f (k : Nat) (a : Int) (b c d : Bool) (e : List (S49)) : Option (Bool) := shutterref08_Few.l0 k 0 a b c d e
theorem shutterref08_Few.mono_l : ∀ k, (∀ a b c d e f, LeO (shutterref08_Few.l0 k a b c d e f) (shutterref08_Few.l0 (k + 1) a b c d e f)) ∧ (∀ a b c d e f j, LeO (shutterref08_Few.j1 k a b c d e f j) (shutterref08_Few.j1 (k + 1) a b c d e f j))
 | 0 => ⟨fun _ _ _ _ _ _ r h => by simp [shutterref08_Few.l0] at h, fun _ _ _ _ _ _ _ r h => by simp [shutterref08_Few.j1] at h⟩
 | k + 1 => by
  obtain ⟨g, i⟩ := shutterref08_Few.mono_l k
  refine ⟨?_, ?_⟩
  ·intro a b c d e f
   unfold shutterref08_Few.l0
   repeat' first
   | (with_reducible exact g _ _ _ _ _ _)
   | (with_reducible exact i _ _ _ _ _ _ _)
   | (with_reducible exact LeO.refl _)
   | (with_reducible exact LeO.none _)
   | (with_reducible refine LeO.ite ?_ ?_)
   | (with_reducible refine LeO.bind ?_ (fun _ => ?_))
   | exact g _ _ _ _ _ _
   | exact i _ _ _ _ _ _ _
   | exact LeO.none _
   | refine LeO.ite ?_ ?_
   | refine LeO.bind ?_ (fun _ => ?_)
  ·intro a b c d e f j
   unfold shutterref08_Few.j1
   repeat' first
   | (with_reducible exact g _ _ _ _ _ _)
   | (with_reducible exact i _ _ _ _ _ _ _)
   | (with_reducible exact LeO.refl _)
   | (with_reducible exact LeO.none _)
   | (with_reducible refine LeO.ite ?_ ?_)
   | (with_reducible refine LeO.bind ?_ (fun _ => ?_))
   | exact g _ _ _ _ _ _
   | exact i _ _ _ _ _ _ _
   | exact LeO.none _
   | refine LeO.ite ?_ ?_
   | refine LeO.bind ?_ (fun _ => ?_)
theorem shutterref08_Few.mono : ∀ a0 a1 c d a4 k, LeO (shutterref08_Few.f k a0 a1 c d a4) (shutterref08_Few.f (k + 1) a0 a1 c d a4) := by
 intro a0 a1 c d a4 k
 obtain ⟨a, b⟩ := shutterref08_Few.mono_l k
 unfold shutterref08_Few.f
 repeat' first
   | (with_reducible exact a _ _ _ _ _ _)
   | (with_reducible exact b _ _ _ _ _ _ _)
   | (with_reducible exact LeO.refl _)
   | (with_reducible exact LeO.none _)
   | (with_reducible refine LeO.ite ?_ ?_)
   | (with_reducible refine LeO.bind ?_ (fun _ => ?_))
   | exact a _ _ _ _ _ _
   | exact b _ _ _ _ _ _ _
   | exact LeO.none _
   | refine LeO.ite ?_ ?_
   | refine LeO.bind ?_ (fun _ => ?_)
theorem shutterref08_Few.calls (k : Nat) (s : Int) (u v x : Bool) (E : Option Addr) (F : Nat) (b : List (S49)) (r : Bool) (w : World) (L : Kd.C k49 w E b.length b) (K : b.length ≤ F) (h : shutterref08_Few.f k s u v x b = some r) :
  Calls Tryz.prog 6 #[.agg #[.int .i64 s, .bool u, .bool v, .bool x, .slice E b.length F]] w fun e w' => e = .returned (.bool r) ∧ Below w.heap.size w w' := by
 have a8 := Tryz.underlying29
 have J := Z L
 have a5 := Z K
 clear L K
 have HB := Z (Below.refl w.heap.size w)
 unfold shutterref08_Few.f at h
 have H := h
 clear h
 have H' := Z H
 clear H
 go_enter Tryz.func6, Tryz.ntmps6
 go_wp2_with (first | ((with_reducible refine gD_ 1 rfl ?_); refine bx_ 1 29 #[.int .i64 s, .bool u, .bool v, .bool x, .slice E b.length F] ?_; intro B hg w2 hbox hb; have c := Z hbox; have a4 := ln' w hg; replace HB := bs_ hb; clear hb hbox hg))
 go_loopg [3] k (fun kq v3 w' => ∃ (a : Int), v3 = .int .i64 a ∧ Aside0 (shutterref08_Few.l0 kq a s u v x b = some r) ∧ Aside0 (kq ≤ k) ∧ Aside0 (w'.heap[B]? = some (.cells #[.int .i64 s, .bool u, .bool v, .bool x, (.slice E b.length F)] 29 (0, 0))) ∧ Aside0 (Below w.heap.size w w'))
 case atStart => exact ⟨(0), (dn_), H', ⟨Nat.le_refl _⟩, ⟨vK c.out⟩, ⟨bl_⟩⟩
 case round =>
  clear H'
  obtain ⟨a, rfl, HA, I, c, HB⟩ := hrel
  cases gk with
  | zero => exact absurd HA.out (by simp [shutterref08_Few.l0])
  | succ k1 =>
   have H := HA.out
   clear HA
   simp only [shutterref08_Few.l0] at H
   have Q := Z H
   clear H
   go_upto_region 2 with (fail)
   go_cut [12] (fun a2 wc => ∃ (kq : Nat) (D : Bool), a2 = .bool D ∧ Aside0 (shutterref08_Few.j1 kq a D s u v x b = some r) ∧ Aside0 (kq ≤ k1) ∧ Aside0 (wc.heap[B]? = some (.cells #[.int .i64 s, .bool u, .bool v, .bool x, (.slice E b.length F)] 29 (0, 0))) ∧ Aside0 (Below w.heap.size w wc))
   case first =>
    have H := Q.out
    clear Q
    by_cases c4 : a < (b.length : Int)
    ·rw [if_pos c4] at H
     have A := decide_eq_true c4
     clear c4
     (first | rw [A] | (simp only [i64_w, i32_w]; rw [A]) | skip)
     have H' := Z H
     clear H
     have S := cells5 c.out
     go_wp2
     go_meet
     case rel => exact ⟨_, (decide (a < 100)), (dn_), H', ⟨by have := I.out; first | omega | exact Nat.le_refl _⟩, ⟨vK c.out⟩, ⟨bl_⟩⟩
    rw [if_neg c4] at H
    have A := decide_eq_false c4
    clear c4
    (first | rw [A] | (simp only [i64_w, i32_w]; rw [A]) | skip)
    have H' := Z H
    clear H
    have X := cells5 c.out
    go_wp2
    go_meet
    case rel => exact ⟨_, (false), (dn_), H', ⟨by have := I.out; first | omega | exact Nat.le_refl _⟩, ⟨vK c.out⟩, ⟨bl_⟩⟩
   clear Q
   obtain ⟨kq, D, rfl, HA, aq, c, HB⟩ := hcut
   cases kq with
   | zero => exact absurd HA.out (by simp [shutterref08_Few.j1])
   | succ ar =>
    have H := HA.out
    clear HA
    simp only [shutterref08_Few.j1] at H
    cases D
    ·rw [iF_] at H
     obtain rfl := Option.some.inj H
     have aI := cells5 c.out
     go_wp2
     go_ret
     exact ⟨er_, bl_⟩
    rw [if_pos rfl] at H
    obtain ⟨c8, H⟩ := gt_ H
    have a6 := decide_eq_true c8
    clear c8
    obtain ⟨c9, H⟩ := gt_ H
    have a7 := decide_eq_true c9
    clear c9
    by_cases c10 : (((rd_T49 b a).f1).length : Int) > 9000
    ·rw [if_pos c10] at H
     have ao : decide (9000 < (((rd_T49 b a).f1).length : Int)) = true := decide_eq_true c10
     have ap : decide (9000 < ((rd_T49 b a).f1).length) = true := decide_eq_true (by omega)
     clear c10
     obtain rfl := Option.some.inj H
     have ay := cells5 c.out
     have y : 0 ≤ (a : Int) := od_
     have z : a < (b.length : Int) := od_
     obtain ⟨an, P, R, G, d, g, i, j, l, m, n, o, q, p⟩ := at_T49 J.out a y z
     cases G
     replace d := hc_ HB d
     replace g := hc_ HB g
     replace i := hc_ HB i
     replace j := hc_ HB j
     replace l := hc_ HB l
     replace m := hc_ HB m
     replace n := hc_ HB n
     replace o := hc_ HB o
     have O := Z p
     have M := Z q
     clear p q
     replace y := eq_true y
     replace z := eq_true z
     go_wp2
     go_ret
     exact ⟨er_, bl_⟩
    rw [if_neg c10] at H
    have ao : decide (9000 < (((rd_T49 b a).f1).length : Int)) = false := decide_eq_false c10
    have ap : decide (9000 < ((rd_T49 b a).f1).length) = false := decide_eq_false (by omega)
    clear c10
    have H' := Z H
    clear H
    have aD := cells5 c.out
    have y : 0 ≤ (a : Int) := od_
    have z : a < (b.length : Int) := od_
    obtain ⟨an, P, R, G, d, g, i, j, l, m, n, o, q, p⟩ := at_T49 J.out a y z
    cases G
    replace d := hc_ HB d
    replace g := hc_ HB g
    replace i := hc_ HB i
    replace j := hc_ HB j
    replace l := hc_ HB l
    replace m := hc_ HB m
    replace n := hc_ HB n
    replace o := hc_ HB o
    have O := Z p
    have M := Z q
    clear p q
    replace y := eq_true y
    replace z := eq_true z
    go_wp2
    go_roundg ar
    case measure => have := I.out; have := aq.out; omega
    case rel => exact ⟨(wrap64 (a + 1)), (dn_), H', ⟨by have := I.out; have := aq.out; omega⟩, ⟨vK c.out⟩, ⟨bl_⟩⟩

/-! ### shutterref08_Writes: function 22 -/
def shutterref08_Writes.f (a0 : Int) : Option (Bool) := if a0 = 241 then (some true) else (some (a0 == 245))
theorem shutterref08_Writes.calls (a0 : Int) (r : Bool) (w : World) (h : shutterref08_Writes.f a0 = some r) :
  Calls Tryz.prog 22 #[.int .i64 a0] w fun e w' => e = .returned (.bool r) ∧ Drawn0 w w' := by
 unfold shutterref08_Writes.f at h
 have H := h
 clear h
 by_cases c2 : a0 = 241
 ·rw [if_pos c2] at H
  obtain ⟨a, b⟩ := eT_ c2
  clear c2
  obtain rfl := Option.some.inj H
  go_enter Tryz.func22, Tryz.ntmps22
  go_wp2
  go_ret
  exact ⟨dn_, dr_⟩
 rw [if_neg c2] at H
 obtain ⟨a, b⟩ := eF_ c2
 obtain rfl := Option.some.inj H
 go_enter Tryz.func22, Tryz.ntmps22
 go_wp2
 go_ret
 exact ⟨dn_, dr_⟩

/-! ### shutterref08_Known: function 21 -/
def shutterref08_Known.f (a0 : Int) : Option (Bool) := (shutterref08_Writes.f a0).bind fun a => (if a = true then (some true) else (if a0 = 111 then (some true) else (if a0 = 242 then (some true) else (some (a0 == 246)))))
theorem shutterref08_Known.calls (a0 : Int) (r : Bool) (w : World) (h : shutterref08_Known.f a0 = some r) :
  Calls Tryz.prog 21 #[.int .i64 a0] w fun e w' => e = .returned (.bool r) ∧ Drawn0 w w' := by
 unfold shutterref08_Known.f at h
 have H := h
 clear h
 replace H := bn_ H
 obtain ⟨a, b, H⟩ := H
 by_cases c3 : a = true
 ·subst c3
  rw [if_pos rfl] at H
  obtain rfl := Option.some.inj H
  go_enter Tryz.func21, Tryz.ntmps21
  go_wp2_with (first | ((with_reducible refine gF_ 22 rfl ?_); refine gd_ (some 4) Tryz.func22 (shutterref08_Writes.calls a0 true _ b.out) ?_; rintro e w' ⟨rfl, ⟨nd, rfl⟩⟩; refine ⟨_, rfl, ?_⟩))
  go_ret
  exact ⟨dn_, dr_⟩
 replace c3 := Bool.eq_false_iff.mpr c3
 subst c3
 rw [iF_] at H
 by_cases c4 : a0 = 111
 ·rw [if_pos c4] at H
  obtain ⟨d, g⟩ := eT_ c4
  clear c4
  obtain rfl := Option.some.inj H
  go_enter Tryz.func21, Tryz.ntmps21
  go_wp2_with (first | ((with_reducible refine gF_ 22 rfl ?_); refine gd_ (some 4) Tryz.func22 (shutterref08_Writes.calls a0 false _ b.out) ?_; rintro e w' ⟨rfl, ⟨nd, rfl⟩⟩; refine ⟨_, rfl, ?_⟩))
  go_ret
  exact ⟨dn_, dr_⟩
 rw [if_neg c4] at H
 obtain ⟨d, g⟩ := eF_ c4
 by_cases c5 : a0 = 242
 ·rw [if_pos c5] at H
  obtain ⟨i, j⟩ := eT_ c5
  clear c5
  obtain rfl := Option.some.inj H
  go_enter Tryz.func21, Tryz.ntmps21
  go_wp2_with (first | ((with_reducible refine gF_ 22 rfl ?_); refine gd_ (some 4) Tryz.func22 (shutterref08_Writes.calls a0 false _ b.out) ?_; rintro e w' ⟨rfl, ⟨nd, rfl⟩⟩; refine ⟨_, rfl, ?_⟩))
  go_ret
  exact ⟨dn_, dr_⟩
 rw [if_neg c5] at H
 obtain ⟨i, j⟩ := eF_ c5
 obtain rfl := Option.some.inj H
 go_enter Tryz.func21, Tryz.ntmps21
 go_wp2_with (first | ((with_reducible refine gF_ 22 rfl ?_); refine gd_ (some 4) Tryz.func22 (shutterref08_Writes.calls a0 false _ b.out) ?_; rintro e w' ⟨rfl, ⟨nd, rfl⟩⟩; refine ⟨_, rfl, ?_⟩))
 go_ret
 exact ⟨dn_, dr_⟩

/-! ### shutterref03_value: function 73 -/
def shutterref03_value.f (a0 : Int) : Option (Int) := if a0 ≥ 97 then (some (wrap64 ((wrap64 (a0)) - 87))) else (some (wrap64 ((wrap64 (a0)) - 48)))
theorem shutterref03_value.calls (a0 r : Int) (w : World) (h : shutterref03_value.f a0 = some r) :
  Calls Tryz.prog 73 #[.int .u8 a0] w fun e w' => e = .returned (.int .i64 r) ∧ Drawn0 w w' := by
 unfold shutterref03_value.f at h
 have H := h
 clear h
 by_cases c2 : a0 ≥ 97
 ·rw [if_pos c2] at H
  have a : decide (97 ≤ a0) = true := decide_eq_true c2
  clear c2
  obtain rfl := Option.some.inj H
  go_enter Tryz.func73, Tryz.ntmps73
  go_wp2
  go_ret
  exact ⟨dn_, dr_⟩
 rw [if_neg c2] at H
 have a : decide (97 ≤ a0) = false := decide_eq_false c2
 clear c2
 obtain rfl := Option.some.inj H
 go_enter Tryz.func73, Tryz.ntmps73
 go_wp2
 go_ret
 exact ⟨dn_, dr_⟩

/-! ### shutterref03_Put: function 43 -/
def shutterref03_Put.f (a0 : Int) : Option (Int) := if 0 ≤ (wrap64 (2 * a0)) then (if (wrap64 (2 * a0)) < 128 then ((shutterref03_value.f (bt (⟨#[52, 48, 99, 49, 99, 50, 99, 51, 99, 52, 99, 53, 99, 54, 99, 55, 99, 56, 99, 57, 52, 97, 52, 98, 52, 99, 52, 100, 52, 101, 52, 102, 53, 48, 100, 49, 100, 50, 100, 51, 100, 52, 100, 53, 100, 54, 100, 55, 100, 56, 100, 57, 53, 97, 53, 98, 53, 99, 53, 100, 53, 101, 53, 102, 54, 48, 54, 49, 101, 50, 101, 51, 101, 52, 101, 53, 101, 54, 101, 55, 101, 56, 101, 57, 54, 97, 54, 98, 54, 99, 54, 100, 54, 101, 54, 102, 102, 48, 102, 49, 102, 50, 102, 51, 102, 52, 102, 53, 102, 54, 102, 55, 102, 56, 102, 57, 55, 97, 55, 98, 55, 99, 55, 100, 55, 101, 55, 102]⟩ : ByteArray) (wrap64 (2 * a0)))).bind fun a => (if 0 ≤ (wrap64 ((wrap64 (2 * a0)) + 1)) then (if (wrap64 ((wrap64 (2 * a0)) + 1)) < 128 then ((shutterref03_value.f (bt (⟨#[52, 48, 99, 49, 99, 50, 99, 51, 99, 52, 99, 53, 99, 54, 99, 55, 99, 56, 99, 57, 52, 97, 52, 98, 52, 99, 52, 100, 52, 101, 52, 102, 53, 48, 100, 49, 100, 50, 100, 51, 100, 52, 100, 53, 100, 54, 100, 55, 100, 56, 100, 57, 53, 97, 53, 98, 53, 99, 53, 100, 53, 101, 53, 102, 54, 48, 54, 49, 101, 50, 101, 51, 101, 52, 101, 53, 101, 54, 101, 55, 101, 56, 101, 57, 54, 97, 54, 98, 54, 99, 54, 100, 54, 101, 54, 102, 102, 48, 102, 49, 102, 50, 102, 51, 102, 52, 102, 53, 102, 54, 102, 55, 102, 56, 102, 57, 55, 97, 55, 98, 55, 99, 55, 100, 55, 101, 55, 102]⟩ : ByteArray) (wrap64 ((wrap64 (2 * a0)) + 1)))).bind fun b => (some ((wrap64 ((wrap64 (16 * a)) + b)) % 256))) else (none)) else (none))) else (none)) else (none)
theorem shutterref03_Put.calls (a0 r : Int) (w : World) (h : shutterref03_Put.f a0 = some r) :
  Calls Tryz.prog 43 #[.int .i64 a0] w fun e w' => e = .returned (.int .u8 r) ∧ Drawn0 w w' := by
 unfold shutterref03_Put.f at h
 have H := h
 clear h
 obtain ⟨a, j⟩ : ∃ j_ : Int, (wrap64 (2 * a0)) = j_ := ⟨_, rfl⟩
 (first | rw [j] at H | simp only [j] at H)
 have q : (IntKind.i64.wrap (2 * a0)) = a := (i64_w _).trans j
 obtain ⟨c3, H⟩ := gt_ H
 have t := decide_eq_true c3
 clear c3
 obtain ⟨c4, H⟩ := gt_ H
 have u := decide_eq_true c4
 clear c4
 replace H := bn_ H
 obtain ⟨d, n, H⟩ := H
 obtain ⟨b, g⟩ : ∃ j_ : Int, (wrap64 ((a) + 1)) = j_ := ⟨_, rfl⟩
 (first | rw [g] at H | simp only [g] at H)
 (try rw [g] at n)
 have s : (IntKind.i64.wrap ((a) + 1)) = b := (i64_w _).trans g
 obtain ⟨c8, H⟩ := gt_ H
 have v := decide_eq_true c8
 clear c8
 by_cases c9 : (b) < 128
 ·rw [if_pos c9] at H
  have x := decide_eq_true c9
  clear c9
  replace H := bn_ H
  obtain ⟨c, k, H⟩ := H
  obtain rfl := Option.some.inj H
  have p5 : 0 ≤ ((a) : Int) := od_
  have p : (a) < (128 : Int) := od_
  have y := bt_at (⟨#[52, 48, 99, 49, 99, 50, 99, 51, 99, 52, 99, 53, 99, 54, 99, 55, 99, 56, 99, 57, 52, 97, 52, 98, 52, 99, 52, 100, 52, 101, 52, 102, 53, 48, 100, 49, 100, 50, 100, 51, 100, 52, 100, 53, 100, 54, 100, 55, 100, 56, 100, 57, 53, 97, 53, 98, 53, 99, 53, 100, 53, 101, 53, 102, 54, 48, 54, 49, 101, 50, 101, 51, 101, 52, 101, 53, 101, 54, 101, 55, 101, 56, 101, 57, 54, 97, 54, 98, 54, 99, 54, 100, 54, 101, 54, 102, 102, 48, 102, 49, 102, 50, 102, 51, 102, 52, 102, 53, 102, 54, 102, 55, 102, 56, 102, 57, 55, 97, 55, 98, 55, 99, 55, 100, 55, 101, 55, 102]⟩ : ByteArray) (a)
  replace p5 := eq_true p5
  replace p := eq_true p
  go_enter Tryz.func43, Tryz.ntmps43
  go_wp2_with (first | (go_at_call 73; (with_reducible refine (shutterref03_value.calls (bt (⟨#[52, 48, 99, 49, 99, 50, 99, 51, 99, 52, 99, 53, 99, 54, 99, 55, 99, 56, 99, 57, 52, 97, 52, 98, 52, 99, 52, 100, 52, 101, 52, 102, 53, 48, 100, 49, 100, 50, 100, 51, 100, 52, 100, 53, 100, 54, 100, 55, 100, 56, 100, 57, 53, 97, 53, 98, 53, 99, 53, 100, 53, 101, 53, 102, 54, 48, 54, 49, 101, 50, 101, 51, 101, 52, 101, 53, 101, 54, 101, 55, 101, 56, 101, 57, 54, 97, 54, 98, 54, 99, 54, 100, 54, 101, 54, 102, 102, 48, 102, 49, 102, 50, 102, 51, 102, 52, 102, 53, 102, 54, 102, 55, 102, 56, 102, 57, 55, 97, 55, 98, 55, 99, 55, 100, 55, 101, 55, 102]⟩ : ByteArray) (a)) d _ n.out).mono ?_); rintro e w' ⟨rfl, ⟨nd, rfl⟩⟩; (try first | exact ⟨rfl, _, World.drewN_drewN _ _ _⟩ | exact ⟨rfl, _, Eq.trans (World.drewN_drewN _ _ _) (congrArg (World.drewN _) (Nat.add_assoc _ _ _))⟩); have p10 : 0 ≤ ((b) : Int) := od_; have i : (b) < (128 : Int) := od_; have m := bt_at (⟨#[52, 48, 99, 49, 99, 50, 99, 51, 99, 52, 99, 53, 99, 54, 99, 55, 99, 56, 99, 57, 52, 97, 52, 98, 52, 99, 52, 100, 52, 101, 52, 102, 53, 48, 100, 49, 100, 50, 100, 51, 100, 52, 100, 53, 100, 54, 100, 55, 100, 56, 100, 57, 53, 97, 53, 98, 53, 99, 53, 100, 53, 101, 53, 102, 54, 48, 54, 49, 101, 50, 101, 51, 101, 52, 101, 53, 101, 54, 101, 55, 101, 56, 101, 57, 54, 97, 54, 98, 54, 99, 54, 100, 54, 101, 54, 102, 102, 48, 102, 49, 102, 50, 102, 51, 102, 52, 102, 53, 102, 54, 102, 55, 102, 56, 102, 57, 55, 97, 55, 98, 55, 99, 55, 100, 55, 101, 55, 102]⟩ : ByteArray) (b); replace p10 := eq_true p10; replace i := eq_true i) | (go_at_call 73; (with_reducible refine (shutterref03_value.calls (bt (⟨#[52, 48, 99, 49, 99, 50, 99, 51, 99, 52, 99, 53, 99, 54, 99, 55, 99, 56, 99, 57, 52, 97, 52, 98, 52, 99, 52, 100, 52, 101, 52, 102, 53, 48, 100, 49, 100, 50, 100, 51, 100, 52, 100, 53, 100, 54, 100, 55, 100, 56, 100, 57, 53, 97, 53, 98, 53, 99, 53, 100, 53, 101, 53, 102, 54, 48, 54, 49, 101, 50, 101, 51, 101, 52, 101, 53, 101, 54, 101, 55, 101, 56, 101, 57, 54, 97, 54, 98, 54, 99, 54, 100, 54, 101, 54, 102, 102, 48, 102, 49, 102, 50, 102, 51, 102, 52, 102, 53, 102, 54, 102, 55, 102, 56, 102, 57, 55, 97, 55, 98, 55, 99, 55, 100, 55, 101, 55, 102]⟩ : ByteArray) (b)) c _ k.out).mono ?_); rintro e w' ⟨rfl, ⟨nd, rfl⟩⟩; (try first | exact ⟨rfl, _, World.drewN_drewN _ _ _⟩ | exact ⟨rfl, _, Eq.trans (World.drewN_drewN _ _ _) (congrArg (World.drewN _) (Nat.add_assoc _ _ _))⟩)))
  repeat (go_quiet (first | (go_at_call 73; (with_reducible refine (shutterref03_value.calls (bt (⟨#[52, 48, 99, 49, 99, 50, 99, 51, 99, 52, 99, 53, 99, 54, 99, 55, 99, 56, 99, 57, 52, 97, 52, 98, 52, 99, 52, 100, 52, 101, 52, 102, 53, 48, 100, 49, 100, 50, 100, 51, 100, 52, 100, 53, 100, 54, 100, 55, 100, 56, 100, 57, 53, 97, 53, 98, 53, 99, 53, 100, 53, 101, 53, 102, 54, 48, 54, 49, 101, 50, 101, 51, 101, 52, 101, 53, 101, 54, 101, 55, 101, 56, 101, 57, 54, 97, 54, 98, 54, 99, 54, 100, 54, 101, 54, 102, 102, 48, 102, 49, 102, 50, 102, 51, 102, 52, 102, 53, 102, 54, 102, 55, 102, 56, 102, 57, 55, 97, 55, 98, 55, 99, 55, 100, 55, 101, 55, 102]⟩ : ByteArray) (a)) d _ n.out).mono ?_); rintro e w' ⟨rfl, ⟨nd, rfl⟩⟩; (try first | exact ⟨rfl, _, World.drewN_drewN _ _ _⟩ | exact ⟨rfl, _, Eq.trans (World.drewN_drewN _ _ _) (congrArg (World.drewN _) (Nat.add_assoc _ _ _))⟩); have p10 : 0 ≤ ((b) : Int) := od_; have i : (b) < (128 : Int) := od_; have m := bt_at (⟨#[52, 48, 99, 49, 99, 50, 99, 51, 99, 52, 99, 53, 99, 54, 99, 55, 99, 56, 99, 57, 52, 97, 52, 98, 52, 99, 52, 100, 52, 101, 52, 102, 53, 48, 100, 49, 100, 50, 100, 51, 100, 52, 100, 53, 100, 54, 100, 55, 100, 56, 100, 57, 53, 97, 53, 98, 53, 99, 53, 100, 53, 101, 53, 102, 54, 48, 54, 49, 101, 50, 101, 51, 101, 52, 101, 53, 101, 54, 101, 55, 101, 56, 101, 57, 54, 97, 54, 98, 54, 99, 54, 100, 54, 101, 54, 102, 102, 48, 102, 49, 102, 50, 102, 51, 102, 52, 102, 53, 102, 54, 102, 55, 102, 56, 102, 57, 55, 97, 55, 98, 55, 99, 55, 100, 55, 101, 55, 102]⟩ : ByteArray) (b); replace p10 := eq_true p10; replace i := eq_true i) | (go_at_call 73; (with_reducible refine (shutterref03_value.calls (bt (⟨#[52, 48, 99, 49, 99, 50, 99, 51, 99, 52, 99, 53, 99, 54, 99, 55, 99, 56, 99, 57, 52, 97, 52, 98, 52, 99, 52, 100, 52, 101, 52, 102, 53, 48, 100, 49, 100, 50, 100, 51, 100, 52, 100, 53, 100, 54, 100, 55, 100, 56, 100, 57, 53, 97, 53, 98, 53, 99, 53, 100, 53, 101, 53, 102, 54, 48, 54, 49, 101, 50, 101, 51, 101, 52, 101, 53, 101, 54, 101, 55, 101, 56, 101, 57, 54, 97, 54, 98, 54, 99, 54, 100, 54, 101, 54, 102, 102, 48, 102, 49, 102, 50, 102, 51, 102, 52, 102, 53, 102, 54, 102, 55, 102, 56, 102, 57, 55, 97, 55, 98, 55, 99, 55, 100, 55, 101, 55, 102]⟩ : ByteArray) (b)) c _ k.out).mono ?_); rintro e w' ⟨rfl, ⟨nd, rfl⟩⟩; (try first | exact ⟨rfl, _, World.drewN_drewN _ _ _⟩ | exact ⟨rfl, _, Eq.trans (World.drewN_drewN _ _ _) (congrArg (World.drewN _) (Nat.add_assoc _ _ _))⟩))); try go_wp2_with (first | (go_at_call 73; (with_reducible refine (shutterref03_value.calls (bt (⟨#[52, 48, 99, 49, 99, 50, 99, 51, 99, 52, 99, 53, 99, 54, 99, 55, 99, 56, 99, 57, 52, 97, 52, 98, 52, 99, 52, 100, 52, 101, 52, 102, 53, 48, 100, 49, 100, 50, 100, 51, 100, 52, 100, 53, 100, 54, 100, 55, 100, 56, 100, 57, 53, 97, 53, 98, 53, 99, 53, 100, 53, 101, 53, 102, 54, 48, 54, 49, 101, 50, 101, 51, 101, 52, 101, 53, 101, 54, 101, 55, 101, 56, 101, 57, 54, 97, 54, 98, 54, 99, 54, 100, 54, 101, 54, 102, 102, 48, 102, 49, 102, 50, 102, 51, 102, 52, 102, 53, 102, 54, 102, 55, 102, 56, 102, 57, 55, 97, 55, 98, 55, 99, 55, 100, 55, 101, 55, 102]⟩ : ByteArray) (a)) d _ n.out).mono ?_); rintro e w' ⟨rfl, ⟨nd, rfl⟩⟩; (try first | exact ⟨rfl, _, World.drewN_drewN _ _ _⟩ | exact ⟨rfl, _, Eq.trans (World.drewN_drewN _ _ _) (congrArg (World.drewN _) (Nat.add_assoc _ _ _))⟩); have p10 : 0 ≤ ((b) : Int) := od_; have i : (b) < (128 : Int) := od_; have m := bt_at (⟨#[52, 48, 99, 49, 99, 50, 99, 51, 99, 52, 99, 53, 99, 54, 99, 55, 99, 56, 99, 57, 52, 97, 52, 98, 52, 99, 52, 100, 52, 101, 52, 102, 53, 48, 100, 49, 100, 50, 100, 51, 100, 52, 100, 53, 100, 54, 100, 55, 100, 56, 100, 57, 53, 97, 53, 98, 53, 99, 53, 100, 53, 101, 53, 102, 54, 48, 54, 49, 101, 50, 101, 51, 101, 52, 101, 53, 101, 54, 101, 55, 101, 56, 101, 57, 54, 97, 54, 98, 54, 99, 54, 100, 54, 101, 54, 102, 102, 48, 102, 49, 102, 50, 102, 51, 102, 52, 102, 53, 102, 54, 102, 55, 102, 56, 102, 57, 55, 97, 55, 98, 55, 99, 55, 100, 55, 101, 55, 102]⟩ : ByteArray) (b); replace p10 := eq_true p10; replace i := eq_true i) | (go_at_call 73; (with_reducible refine (shutterref03_value.calls (bt (⟨#[52, 48, 99, 49, 99, 50, 99, 51, 99, 52, 99, 53, 99, 54, 99, 55, 99, 56, 99, 57, 52, 97, 52, 98, 52, 99, 52, 100, 52, 101, 52, 102, 53, 48, 100, 49, 100, 50, 100, 51, 100, 52, 100, 53, 100, 54, 100, 55, 100, 56, 100, 57, 53, 97, 53, 98, 53, 99, 53, 100, 53, 101, 53, 102, 54, 48, 54, 49, 101, 50, 101, 51, 101, 52, 101, 53, 101, 54, 101, 55, 101, 56, 101, 57, 54, 97, 54, 98, 54, 99, 54, 100, 54, 101, 54, 102, 102, 48, 102, 49, 102, 50, 102, 51, 102, 52, 102, 53, 102, 54, 102, 55, 102, 56, 102, 57, 55, 97, 55, 98, 55, 99, 55, 100, 55, 101, 55, 102]⟩ : ByteArray) (b)) c _ k.out).mono ?_); rintro e w' ⟨rfl, ⟨nd, rfl⟩⟩; (try first | exact ⟨rfl, _, World.drewN_drewN _ _ _⟩ | exact ⟨rfl, _, Eq.trans (World.drewN_drewN _ _ _) (congrArg (World.drewN _) (Nat.add_assoc _ _ _))⟩))))
  go_ret
  exact ⟨by first | rfl | (simp; done) | (simp only [← j, ← g, i64_w]; rfl) | (simp only [← j, ← g] <;> (first | rfl | simp)) | (simp [*]; done), dr_⟩
 rw [if_neg c9] at H
 exact absurd H (by simp)

/-! ### shutterref05_PutWcc: function 23 -/
def shutterref05_PutWcc.j0 : Nat → Int → Bool → Bool → Bool → Option (Int)
 | 0, _, _, _, _ => none
 | k + 1, c, i, b, a => if b = true then (if a = true then ((shutterref03_Put.f (wrap64 ((wrap64 (c + 2)) + 1))).bind fun d => (some d)) else ((shutterref03_Put.f (wrap64 (c + 2))).bind fun e => (some e))) else (if a = true then ((shutterref03_Put.f (wrap64 (c + 1))).bind fun g => (some g)) else ((shutterref03_Put.f c).bind fun h => (some h)))
def shutterref05_PutWcc.f (k : Nat) (a b c : Bool) : Option (Int) := if a = true then (shutterref05_PutWcc.j0 k (0 + 4) a b c) else (shutterref05_PutWcc.j0 k 0 a b c)
theorem shutterref05_PutWcc.mono_l : ∀ k, (∀ b c d e, LeO (shutterref05_PutWcc.j0 k b c d e) (shutterref05_PutWcc.j0 (k + 1) b c d e))
 | 0 => fun _ _ _ _ r h => by simp [shutterref05_PutWcc.j0] at h
 | k + 1 => by
  have a := shutterref05_PutWcc.mono_l k
  ·intro b c d e
   unfold shutterref05_PutWcc.j0
   repeat' first
   | (with_reducible exact a _ _ _ _)
   | (with_reducible exact LeO.refl _)
   | (with_reducible exact LeO.none _)
   | (with_reducible refine LeO.ite ?_ ?_)
   | (with_reducible refine LeO.bind ?_ (fun _ => ?_))
   | exact a _ _ _ _
   | exact LeO.none _
   | refine LeO.ite ?_ ?_
   | refine LeO.bind ?_ (fun _ => ?_)
theorem shutterref05_PutWcc.mono : ∀ a0 a1 b k, LeO (shutterref05_PutWcc.f k a0 a1 b) (shutterref05_PutWcc.f (k + 1) a0 a1 b) := by
 intro a0 a1 b k
 have a := shutterref05_PutWcc.mono_l k
 unfold shutterref05_PutWcc.f
 repeat' first
   | (with_reducible exact a _ _ _ _)
   | (with_reducible exact LeO.refl _)
   | (with_reducible exact LeO.none _)
   | (with_reducible refine LeO.ite ?_ ?_)
   | (with_reducible refine LeO.bind ?_ (fun _ => ?_))
   | exact a _ _ _ _
   | exact LeO.none _
   | refine LeO.ite ?_ ?_
   | refine LeO.bind ?_ (fun _ => ?_)
theorem shutterref05_PutWcc.calls (k : Nat) (g d b : Bool) (r : Int) (w : World) (h : shutterref05_PutWcc.f k g d b = some r) :
  Calls Tryz.prog 23 #[.agg #[.bool g, .bool d, .bool b]] w fun e w' => e = .returned (.int .u8 r) ∧ Below w.heap.size w w' := by
 have ao := Tryz.underlying26
 have HB := Z (Below.refl w.heap.size w)
 unfold shutterref05_PutWcc.f at h
 have H := h
 clear h
 have u := Z H
 clear H
 go_enter Tryz.func23, Tryz.ntmps23
 go_upto_if 5 with (first | ((with_reducible refine gD_ 1 rfl ?_); refine bx_ 1 26 #[.bool g, .bool d, .bool b] ?_; intro n hg w3 hbox hb; have c := Z hbox; have am := ln' w hg; replace HB := bs_ hb; clear hb hbox hg; have v := cells3 c.out))
 (try simp only [Act.put, sA, sB, sC])
 go_cut [3] (fun v3 wc => ∃ (kq : Nat) (a : Int), v3 = .int .i64 a ∧ Aside0 (shutterref05_PutWcc.j0 kq a g d b = some r) ∧ Aside0 (kq ≤ k) ∧ Aside0 (wc.heap[n]? = some (.cells #[.bool g, .bool d, .bool b] 26 (0, 0))) ∧ Aside0 (Below w.heap.size w wc))
 case first =>
  have H := u.out
  clear u
  by_cases c5 : g = true
  ·subst c5
   rw [if_pos rfl] at H
   have H' := Z H
   clear H
   go_wp2
   go_meet
   case rel => exact ⟨_, (0 + 4), (dn_), H', ⟨by first | omega | exact Nat.le_refl _⟩, ⟨vK c.out⟩, ⟨bl_⟩⟩
  replace c5 := Bool.eq_false_iff.mpr c5
  subst c5
  rw [iF_] at H
  have H' := Z H
  clear H
  go_wp2
  go_meet
  case rel => exact ⟨_, (0), (dn_), H', ⟨by first | omega | exact Nat.le_refl _⟩, ⟨vK c.out⟩, ⟨bl_⟩⟩
 clear u
 try clear v
 obtain ⟨kq, a, rfl, HA, aq, c, HB⟩ := hcut
 cases kq with
 | zero => exact absurd HA.out (by simp [shutterref05_PutWcc.j0])
 | succ ar =>
  have H := HA.out
  clear HA
  simp only [shutterref05_PutWcc.j0] at H
  by_cases c6 : d = true
  ·subst c6
   rw [if_pos rfl] at H
   by_cases c7 : b = true
   ·subst c7
    rw [if_pos rfl] at H
    replace H := bn_ H
    obtain ⟨i, A8, H⟩ := H
    obtain rfl := Option.some.inj H
    have af := cells3 c.out
    go_wp2_with (first | ((with_reducible refine gF_ 43 rfl ?_); refine gd_ (some 17) Tryz.func43 (shutterref03_Put.calls (wrap64 ((wrap64 (a + 2)) + 1)) i _ A8.out) ?_; rintro e w' ⟨rfl, ⟨nd, rfl⟩⟩; refine ⟨_, rfl, ?_⟩))
    go_ret
    exact ⟨er_, bl_⟩
   replace c7 := Bool.eq_false_iff.mpr c7
   subst c7
   rw [iF_] at H
   replace H := bn_ H
   obtain ⟨j, ac, H⟩ := H
   obtain rfl := Option.some.inj H
   have I := cells3 c.out
   go_wp2_with (first | ((with_reducible refine gF_ 43 rfl ?_); refine gd_ (some 17) Tryz.func43 (shutterref03_Put.calls (wrap64 (a + 2)) j _ ac.out) ?_; rintro e w' ⟨rfl, ⟨nd, rfl⟩⟩; refine ⟨_, rfl, ?_⟩))
   go_ret
   exact ⟨er_, bl_⟩
  replace c6 := Bool.eq_false_iff.mpr c6
  subst c6
  rw [iF_] at H
  by_cases o : b = true
  ·subst o
   rw [if_pos rfl] at H
   replace H := bn_ H
   obtain ⟨l, ad, H⟩ := H
   obtain rfl := Option.some.inj H
   have L := cells3 c.out
   go_wp2_with (first | ((with_reducible refine gF_ 43 rfl ?_); refine gd_ (some 17) Tryz.func43 (shutterref03_Put.calls (wrap64 (a + 1)) l _ ad.out) ?_; rintro e w' ⟨rfl, ⟨nd, rfl⟩⟩; refine ⟨_, rfl, ?_⟩))
   go_ret
   exact ⟨er_, bl_⟩
  replace o := Bool.eq_false_iff.mpr o
  subst o
  rw [iF_] at H
  replace H := bn_ H
  obtain ⟨m, ae, H⟩ := H
  obtain rfl := Option.some.inj H
  have P := cells3 c.out
  go_wp2_with (first | ((with_reducible refine gF_ 43 rfl ?_); refine gd_ (some 17) Tryz.func43 (shutterref03_Put.calls a m _ ae.out) ?_; rintro e w' ⟨rfl, ⟨nd, rfl⟩⟩; refine ⟨_, rfl, ?_⟩))
  go_ret
  exact ⟨er_, bl_⟩

/-! ### shutterref05_Chars: function 44 -/
def shutterref05_Chars.l0 : Nat → List Int → Int → Option (Bool)
 | 0, _, _ => none
 | k + 1, c, a => if a < (c.length : Int) then (if 0 ≤ a then ((shutterref05_Char.f (rd c a)).bind fun b => (if b = true then (shutterref05_Chars.l0 k c (wrap64 (a + 1))) else (some false))) else (none)) else (some true)
def shutterref05_Chars.f (k : Nat) (l0 : List Int) : Option (Bool) := shutterref05_Chars.l0 k l0 0
theorem shutterref05_Chars.mono_l : ∀ k, (∀ b c, LeO (shutterref05_Chars.l0 k b c) (shutterref05_Chars.l0 (k + 1) b c))
 | 0 => fun _ _ r h => by simp [shutterref05_Chars.l0] at h
 | k + 1 => by
  have a := shutterref05_Chars.mono_l k
  ·intro b c
   unfold shutterref05_Chars.l0
   repeat' first
   | (with_reducible exact a _ _)
   | (with_reducible exact LeO.refl _)
   | (with_reducible exact LeO.none _)
   | (with_reducible refine LeO.ite ?_ ?_)
   | (with_reducible refine LeO.bind ?_ (fun _ => ?_))
   | exact a _ _
   | exact LeO.none _
   | refine LeO.ite ?_ ?_
   | refine LeO.bind ?_ (fun _ => ?_)
theorem shutterref05_Chars.mono : ∀ a0 k, LeO (shutterref05_Chars.f k a0) (shutterref05_Chars.f (k + 1) a0) := by
 intro a0 k
 have a := shutterref05_Chars.mono_l k
 unfold shutterref05_Chars.f
 repeat' first
   | (with_reducible exact a _ _)
   | (with_reducible exact LeO.refl _)
   | (with_reducible exact LeO.none _)
   | (with_reducible refine LeO.ite ?_ ?_)
   | (with_reducible refine LeO.bind ?_ (fun _ => ?_))
   | exact a _ _
   | exact LeO.none _
   | refine LeO.ite ?_ ?_
   | refine LeO.bind ?_ (fun _ => ?_)
theorem shutterref05_Chars.calls (k : Nat) (q : Option Addr) (c0 : Nat) (l0 : List Int) (r : Bool) (w : World) (hr0 : Kd.C (Kd.int .u8) w q l0.length l0) (o : l0.length ≤ c0) (h : shutterref05_Chars.f k l0 = some r) :
  Calls Tryz.prog 44 #[.slice q l0.length c0] w fun e w' => e = .returned (.bool r) ∧ Drawn0 w w' := by
 have n := Z hr0
 have v := Z o
 clear hr0 o
 unfold shutterref05_Chars.f at h
 have H := h
 clear h
 have H' := Z H
 clear H
 go_enter Tryz.func44, Tryz.ntmps44
 go_wp2
 go_loopg [3] k (fun kq u w' => ∃ (a : Int), u = .int .i64 a ∧ Aside0 (shutterref05_Chars.l0 kq l0 a = some r) ∧ Aside0 (kq ≤ k) ∧ Drawn0 w w')
 case atStart => exact ⟨(0), (dn_), H', ⟨Nat.le_refl _⟩, dr_⟩
 case round =>
  clear H'
  obtain ⟨a, rfl, HA, m, ⟨x, rfl⟩⟩ := hrel
  cases gk with
  | zero => exact absurd HA.out (by simp [shutterref05_Chars.l0])
  | succ k1 =>
   have H := HA.out
   clear HA
   simp only [shutterref05_Chars.l0] at H
   by_cases c2 : a < (l0.length : Int)
   rotate_left
   ·rw [if_neg c2] at H
    have p := decide_eq_false c2
    clear c2
    obtain rfl := Option.some.inj H
    go_wp2
    go_ret
    exact ⟨dn_, dr_⟩
   rw [if_pos c2] at H
   have p := decide_eq_true c2
   clear c2
   obtain ⟨c3, H⟩ := gt_ H
   have t := decide_eq_true c3
   clear c3
   replace H := bn_ H
   obtain ⟨i, s, H⟩ := H
   by_cases c5 : i = true
   ·subst c5
    rw [if_pos rfl] at H
    have H' := Z H
    clear H
    have b : 0 ≤ (a : Int) := od_
    have c : a < (l0.length : Int) := od_
    obtain ⟨j, d, g⟩ := Kd.at_int n.out a b c
    cases d
    replace b := eq_true b
    replace c := eq_true c
    go_wp2_with (first | ((with_reducible refine gF_ 45 rfl ?_); refine gd_ (some 14) Tryz.func45 (shutterref05_Char.calls (rd l0 a) true _ s.out) ?_; rintro e w' ⟨rfl, ⟨nd, rfl⟩⟩; refine ⟨_, rfl, ?_⟩))
    go_roundg k1
    case measure => have := m.out; omega
    case rel => exact ⟨(wrap64 (a + 1)), (dn_), H', ⟨by have := m.out; omega⟩, dr_⟩
   replace c5 := Bool.eq_false_iff.mpr c5
   subst c5
   rw [iF_] at H
   obtain rfl := Option.some.inj H
   have b : 0 ≤ (a : Int) := od_
   have c : a < (l0.length : Int) := od_
   obtain ⟨j, d, g⟩ := Kd.at_int n.out a b c
   cases d
   replace b := eq_true b
   replace c := eq_true c
   go_wp2_with (first | ((with_reducible refine gF_ 45 rfl ?_); refine gd_ (some 14) Tryz.func45 (shutterref05_Char.calls (rd l0 a) false _ s.out) ?_; rintro e w' ⟨rfl, ⟨nd, rfl⟩⟩; refine ⟨_, rfl, ?_⟩))
   go_ret
   exact ⟨dn_, dr_⟩

end Go.Proofs.YtphboakgkmjpbaaGreatDoor.P
