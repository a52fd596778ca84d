/- pp.py and press2.py (wip/tools) wrote this text. -/
import Derived.Test.YtjpedimndkibnaaGreatDoorPx0
import Derived.Test.YtjpedimndkibnaaGreatDoorPxS
import Derived.Test.YtjpedimndkibnaaGreatDoorPxT
import Derived.Test.YtjpedimndkibnaaGreatDoorPx17
namespace Go.Proofs.YtjpedimndkibnaaGreatDoor.P
open Go.RowKit Go.Proofs.YtjpedimndkibnaaGreatDoorW.PrintWords Go.Proofs.YtjpedimndkibnaaGreatDoorW.PrintLast Go.Proofs.YtjpedimndkibnaaGreatDoorW.PrintMore
attribute [local go_sem] max2_int min2_int max_two min_two max_three min_three max_four min_four
attribute [local go_sem] Instr.field asAgg
set_option linter.unusedVariables false
set_option linter.unusedSimpArgs false
set_option maxHeartbeats 8000000
set_option maxRecDepth 100000

/-! ### shutterref15_zero: function 118 -/
def shutterref15_zero.f (a0 : Int) : Option (Int) := if a0 < 0 then (some 0) else (some a0)
theorem shutterref15_zero.calls (a0 r : Int) (w : World) (h : shutterref15_zero.f a0 = some r) :
  Calls Tryz.prog 118 #[.int .i64 a0] w fun e w' => e = .returned (.int .i64 r) ∧ Drawn0 w w' := by
 unfold shutterref15_zero.f at h
 have H := h
 clear h
 by_cases c2 : a0 < 0
 ·rw [if_pos c2] at H
  have a := decide_eq_true c2
  clear c2
  obtain rfl := Option.some.inj H
  go_enter Tryz.func118, Tryz.ntmps118
  go_wp2
  go_ret
  exact ⟨dn_, dr_⟩
 rw [if_neg c2] at H
 have a := decide_eq_false c2
 clear c2
 obtain rfl := Option.some.inj H
 go_enter Tryz.func118, Tryz.ntmps118
 go_wp2
 go_ret
 exact ⟨dn_, dr_⟩

/-! ### shutterref11_Prev: function 119 -/
def shutterref11_Prev.l0 : Nat → Int → Int → Int → Int → List (S55) → Int → Bool → Bool → Option (Int)
 | 0, _, _, _, _, _, _, _, _ => none
 | k + 1, l, j, b, c, a, d, e, g => if j ≤ (wrap64 ((a.length : Int) + 1)) then ((shutterref11_mod.f k (wrap64 (l - j)) (a.length : Int)).bind fun i => ((shutterref11_first.f k b c a d e g i).bind fun h => (if h ≥ 0 then (some h) else (shutterref11_Prev.l0 k l (wrap64 (j + 1)) b c a d e g)))) else (some (-1))
def shutterref11_Prev.f (k : Nat) (a b : Int) (g : List (S55)) (c : Int) (d e : Bool) (a1 : Int) : Option (Int) := shutterref11_Prev.l0 k a1 2 a b g c d e
theorem shutterref11_Prev.mono_l : ∀ k, (∀ b c d e f g i j, LeO (shutterref11_Prev.l0 k b c d e f g i j) (shutterref11_Prev.l0 (k + 1) b c d e f g i j))
 | 0 => fun _ _ _ _ _ _ _ _ r h => by simp [shutterref11_Prev.l0] at h
 | k + 1 => by
  have a := shutterref11_Prev.mono_l k
  ·intro b c d e f g i j
   unfold shutterref11_Prev.l0
   repeat' first
   | (with_reducible exact a _ _ _ _ _ _ _ _)
   | (with_reducible exact shutterref11_first.mono _ _ _ _ _ _ _ _)
   | (with_reducible exact shutterref11_mod.mono _ _ _)
   | (with_reducible exact LeO.refl _)
   | (with_reducible exact LeO.none _)
   | (with_reducible refine LeO.ite ?_ ?_)
   | (with_reducible refine LeO.bind ?_ (fun _ => ?_))
   | exact a _ _ _ _ _ _ _ _
   | exact shutterref11_first.mono _ _ _ _ _ _ _ _
   | exact shutterref11_mod.mono _ _ _
   | exact LeO.none _
   | refine LeO.ite ?_ ?_
   | refine LeO.bind ?_ (fun _ => ?_)
theorem shutterref11_Prev.mono : ∀ a0 a1 b c a4 d e k, LeO (shutterref11_Prev.f k a0 a1 b c a4 d e) (shutterref11_Prev.f (k + 1) a0 a1 b c a4 d e) := by
 intro a0 a1 b c a4 d e k
 have a := shutterref11_Prev.mono_l k
 unfold shutterref11_Prev.f
 repeat' first
   | (with_reducible exact a _ _ _ _ _ _ _ _)
   | (with_reducible exact shutterref11_first.mono _ _ _ _ _ _ _ _)
   | (with_reducible exact shutterref11_mod.mono _ _ _)
   | (with_reducible exact LeO.refl _)
   | (with_reducible exact LeO.none _)
   | (with_reducible refine LeO.ite ?_ ?_)
   | (with_reducible refine LeO.bind ?_ (fun _ => ?_))
   | exact a _ _ _ _ _ _ _ _
   | exact shutterref11_first.mono _ _ _ _ _ _ _ _
   | exact shutterref11_mod.mono _ _ _
   | exact LeO.none _
   | refine LeO.ite ?_ ?_
   | refine LeO.bind ?_ (fun _ => ?_)
def shutterref11_Prev.T4 : Bool × List (List Nat × List Nat) := (true, [([], []), ([], []), ([], []), ([1, 2], [1, 2]), ([], []), ([4], [4]), ([5], [5]), ([3, 6], [3, 6]), ([0, 7, 7], [0, 7]), ([8, 8, 0, 1, 2, 3, 4, 5, 6, 7, 8], [8])])
def shutterref11_Prev.B4 : List Nat := [0, 0, 0, 6, 0, 16, 48, 126, 255, 511]
theorem shutterref11_Prev.tab4 : rtab .any (opsOf Tryz.f119 4) = shutterref11_Prev.T4 := by kernel_rfl
theorem shutterref11_Prev.bits4 : waitsOk shutterref11_Prev.T4.2 shutterref11_Prev.B4 = true := by kernel_rfl
theorem shutterref11_Prev.calls (k : Nat) (d g : Int) (u : Option Addr) (x : Nat) (b : List (S55)) (j : Int) (l m : Bool) (a1 r : Int) (w : World) (D : Kd.C k55 w u b.length b) (B : b.length ≤ x) (h : shutterref11_Prev.f k d g b j l m a1 = some r) :
  Calls Tryz.prog 119 #[.agg #[.int .i64 d, .int .i64 g, .slice u b.length x, .int .i64 j, .bool l, .bool m], .int .i64 a1] w fun e w' => e = .returned (.int .i64 r) ∧ Below w.heap.size w w' := by
 have aN := Tryz.underlying24
 have A := Z D
 have z := Z B
 clear D B
 have HB := Z (Below.refl w.heap.size w)
 unfold shutterref11_Prev.f at h
 have H := h
 clear h
 have H' := Z H
 clear H
 go_enter Tryz.func119, Tryz.ntmps119
 go_wp2_with (first | ((with_reducible refine gD_ 2 rfl ?_); refine bx_ 2 24 #[.int .i64 d, .int .i64 g, .slice u b.length x, .int .i64 j, .bool l, .bool m] ?_; intro c hg w3 hbox hb; have a := Z hbox; have aM := ln' w hg; replace HB := bs_ hb; clear hb hbox hg))
 go_loopg [5] k (fun kq v5 w' => ∃ (o : Int), v5 = .int .i64 o ∧ Aside0 (shutterref11_Prev.l0 kq a1 o d g b j l m = some r) ∧ Aside0 (kq ≤ k) ∧ Aside0 (w'.heap[c]? = some (.cells #[.int .i64 d, .int .i64 g, (.slice u b.length x), .int .i64 j, .bool l, .bool m] 24 (0, 0))) ∧ Aside0 (Below w.heap.size w w'))
 case atStart => exact ⟨(2), (dn_), H', ⟨Nat.le_refl _⟩, ⟨vK a.out⟩, ⟨bl_⟩⟩
 case round =>
  clear H'
  obtain ⟨o, rfl, HA, G, a, HB⟩ := hrel
  cases gk with
  | zero => exact absurd HA.out (by simp [shutterref11_Prev.l0])
  | succ k1 =>
   have H := HA.out
   clear HA
   simp only [shutterref11_Prev.l0] at H
   by_cases c4 : o ≤ (wrap64 ((b.length : Int) + 1))
   rotate_left
   ·rw [if_neg c4] at H
    have L := decide_eq_false c4
    clear c4
    obtain rfl := Option.some.inj H
    have ac := cells6 a.out
    go_wp2
    go_ret
    exact ⟨er_, bl_⟩
   rw [if_pos c4] at H
   have L := decide_eq_true c4
   clear c4
   replace H := bn_ H
   obtain ⟨y, A5, H⟩ := H
   replace H := bn_ H
   obtain ⟨s, A6, H⟩ := H
   by_cases c7 : s ≥ 0
   ·rw [if_pos c7] at H
    have M : decide (0 ≤ s) = true := decide_eq_true c7
    clear c7
    obtain rfl := Option.some.inj H
    have az := cells6 a.out
    try go_wp2
    replace a := Z (blk_drew a.out)
    replace HB := Z (below_drew1 HB.out)
    refine start_ (n := 10) (S := fun w' => w'.cell? ⟨c, 0, none⟩ = some (.int .i64 d) ∧ w'.cell? ⟨c, 1, none⟩ = some (.int .i64 g) ∧ w'.cell? ⟨c, 2, none⟩ = some (.slice u b.length x) ∧ w'.cell? ⟨c, 3, none⟩ = some (.int .i64 j) ∧ w'.cell? ⟨c, 4, none⟩ = some (.bool l) ∧ w'.cell? ⟨c, 5, none⟩ = some (.bool m)) (ds := []) (bv 10 0) (by kernel_rfl) rfl rfl ⟨(blk_cell a.out 0).trans rfl, (blk_cell a.out 1).trans rfl, (blk_cell a.out 2).trans rfl, (blk_cell a.out 3).trans rfl, (blk_cell a.out 4).trans rfl, (blk_cell a.out 5).trans rfl⟩ (fun hHeld => ?_); refine with_tabW shutterref11_Prev.tab4 shutterref11_Prev.bits4 (fun HT_ HW_ => ?_)
    generalize wr.drew = w9 at a HB hHeld ⊢
    refine pT_ HT_ 1 10 2 (some 16) ?_
    refine pT_ HT_ 2 10 6 (some 17) ?_
    refine pT_ HT_ 3 10 14 (some 18) ?_
    refine pT_ HT_ 4 10 30 (some 19) ?_
    refine tT_ HT_ HW_ hHeld 0 10 31 (some 15) ?_
    refine tT_ HT_ HW_ hHeld 5 10 63 (some 20) ?_
    refine pT_ HT_ 6 10 127 (some 21) ?_
    refine oT_ HT_ 7 10 255 (some 22) (fun K hK => ?_)
    refine goes_ Tryz.func66 (by kernel_rfl) rfl #[.int .i64 (wrap64 (a1 - o)), .int .i64 (b.length : Int)] (by rfl) rfl rfl ag_ ?_
    with_reducible refine (shutterref11_mod.calls k1 (wrap64 (a1 - o)) (b.length : Int) y _ A5.out).mono ?_
    rintro e w' ⟨rfl, ⟨nd, rfl⟩⟩
    refine ⟨_, rfl, ?_⟩
    refine hK.out _ _ ⟨(blk_cell a.out 0).trans rfl, (blk_cell a.out 1).trans rfl, (blk_cell a.out 2).trans rfl, (blk_cell a.out 3).trans rfl, (blk_cell a.out 4).trans rfl, (blk_cell a.out 5).trans rfl⟩ (fun hHeld => ?_)
    clear hK K
    refine nA_ (some 22) ?_
    refine oT_ HT_ 8 10 511 (some 23) (fun K hK => ?_)
    refine goes_ Tryz.func65 (by kernel_rfl) rfl #[.agg #[.int .i64 d, .int .i64 g, .slice u b.length x, .int .i64 j, .bool l, .bool m], .int .i64 y] (by rfl) rfl rfl ag_ ?_
    with_reducible refine (shutterref11_first.calls k1 d g _ _ b j l m y s _ ?side1 ?side2 A6.out).mono ?_
    (case side1 => repeat (first | exact (Kd.C_below A.out bl_) | (with_reducible apply pC)))
    (case side2 => exact z.out)
    rintro e aP ⟨rfl, hb⟩
    refine ⟨_, rfl, ?_⟩
    replace a := kb' a hb
    replace HB := bs_ hb
    (try clear hb)
    (try clear ay)
    (try clear hk)
    (try clear hi)
    refine hK.out _ _ ⟨(blk_cell a.out 0).trans rfl, (blk_cell a.out 1).trans rfl, (blk_cell a.out 2).trans rfl, (blk_cell a.out 3).trans rfl, (blk_cell a.out 4).trans rfl, (blk_cell a.out 5).trans rfl⟩ (fun hHeld => ?_)
    clear hK K
    refine nA_ (some 23) ?_
    refine pT_ HT_ 9 10 1023 (some 6) ?_
    refine done_ (done_of HT_.out (by kernel_rfl)) ?_
    try go_wp2
    go_ret
    exact ⟨er_, bl_⟩
   rw [if_neg c7] at H
   have M : decide (0 ≤ s) = false := decide_eq_false c7
   clear c7
   have H' := Z H
   clear H
   have V := cells6 a.out
   try go_wp2
   replace a := Z (blk_drew a.out)
   replace HB := Z (below_drew1 HB.out)
   refine start_ (n := 10) (S := fun w' => w'.cell? ⟨c, 0, none⟩ = some (.int .i64 d) ∧ w'.cell? ⟨c, 1, none⟩ = some (.int .i64 g) ∧ w'.cell? ⟨c, 2, none⟩ = some (.slice u b.length x) ∧ w'.cell? ⟨c, 3, none⟩ = some (.int .i64 j) ∧ w'.cell? ⟨c, 4, none⟩ = some (.bool l) ∧ w'.cell? ⟨c, 5, none⟩ = some (.bool m)) (ds := []) (bv 10 0) (by kernel_rfl) rfl rfl ⟨(blk_cell a.out 0).trans rfl, (blk_cell a.out 1).trans rfl, (blk_cell a.out 2).trans rfl, (blk_cell a.out 3).trans rfl, (blk_cell a.out 4).trans rfl, (blk_cell a.out 5).trans rfl⟩ (fun hHeld => ?_); refine with_tabW shutterref11_Prev.tab4 shutterref11_Prev.bits4 (fun HT_ HW_ => ?_)
   generalize wr.drew = aQ at a HB hHeld ⊢
   refine pT_ HT_ 1 10 2 (some 16) ?_
   refine pT_ HT_ 2 10 6 (some 17) ?_
   refine pT_ HT_ 3 10 14 (some 18) ?_
   refine pT_ HT_ 4 10 30 (some 19) ?_
   refine tT_ HT_ HW_ hHeld 0 10 31 (some 15) ?_
   refine tT_ HT_ HW_ hHeld 5 10 63 (some 20) ?_
   refine pT_ HT_ 6 10 127 (some 21) ?_
   refine oT_ HT_ 7 10 255 (some 22) (fun K hK => ?_)
   refine goes_ Tryz.func66 (by kernel_rfl) rfl #[.int .i64 (wrap64 (a1 - o)), .int .i64 (b.length : Int)] (by rfl) rfl rfl ag_ ?_
   with_reducible refine (shutterref11_mod.calls k1 (wrap64 (a1 - o)) (b.length : Int) y _ A5.out).mono ?_
   rintro e w' ⟨rfl, ⟨nd, rfl⟩⟩
   refine ⟨_, rfl, ?_⟩
   refine hK.out _ _ ⟨(blk_cell a.out 0).trans rfl, (blk_cell a.out 1).trans rfl, (blk_cell a.out 2).trans rfl, (blk_cell a.out 3).trans rfl, (blk_cell a.out 4).trans rfl, (blk_cell a.out 5).trans rfl⟩ (fun hHeld => ?_)
   clear hK K
   refine nA_ (some 22) ?_
   refine oT_ HT_ 8 10 511 (some 23) (fun K hK => ?_)
   refine goes_ Tryz.func65 (by kernel_rfl) rfl #[.agg #[.int .i64 d, .int .i64 g, .slice u b.length x, .int .i64 j, .bool l, .bool m], .int .i64 y] (by rfl) rfl rfl ag_ ?_
   with_reducible refine (shutterref11_first.calls k1 d g _ _ b j l m y s _ ?side1 ?side2 A6.out).mono ?_
   (case side1 => repeat (first | exact (Kd.C_below A.out bl_) | (with_reducible apply pC)))
   (case side2 => exact z.out)
   rintro e aR ⟨rfl, hb⟩
   refine ⟨_, rfl, ?_⟩
   replace a := kb' a hb
   replace HB := bs_ hb
   (try clear hb)
   (try clear ay)
   (try clear hk)
   (try clear hi)
   refine hK.out _ _ ⟨(blk_cell a.out 0).trans rfl, (blk_cell a.out 1).trans rfl, (blk_cell a.out 2).trans rfl, (blk_cell a.out 3).trans rfl, (blk_cell a.out 4).trans rfl, (blk_cell a.out 5).trans rfl⟩ (fun hHeld => ?_)
   clear hK K
   refine nA_ (some 23) ?_
   refine pT_ HT_ 9 10 1023 (some 6) ?_
   refine done_ (done_of HT_.out (by kernel_rfl)) ?_
   try go_wp2
   go_roundg k1
   case measure => have := G.out; omega
   case rel => exact ⟨(wrap64 (o + 1)), (dn_), H', ⟨by have := G.out; omega⟩, ⟨vK a.out⟩, ⟨bl_⟩⟩

end Go.Proofs.YtjpedimndkibnaaGreatDoor.P
