/- Printed walks of the law's functions, joined by joinpx.py: each function as a plain Lean function, and that Go's code comes to its answer. -/
import Derived.Test.YtggecanpjkpkiaaDoorJKeysKeeps1
import Derived.Test.YtggecanpjkpkiaaDoorJKeysKeeps3
import Derived.Test.YtggecanpjkpkiaaDoorJKeysKeeps5
import Derived.Test.YtggecanpjkpkiaaDoorJKeysKeeps4
import Derived.Test.YtggecanpjkpkiaaDoorJKeysKeeps8
import Derived.Test.YtggecanpjkpkiaaDoorPx33
namespace Go.Proofs.YtggecanpjkpkiaaDoor.P
open Go.RowKit Go.Proofs.YtggecanpjkpkiaaDoorW.PrintWords Go.Proofs.YtggecanpjkpkiaaDoorW.PrintLast Go.Proofs.YtggecanpjkpkiaaDoorW.PrintMore
attribute [local go_sem] max2_int min2_int max_two min_two max_three min_three max_four min_four
attribute [local go_sem] Instr.field asAgg
set_option linter.unusedVariables false
set_option linter.unusedSimpArgs false
set_option maxHeartbeats 8000000
set_option maxRecDepth 100000
def move_line.l0 : Nat → List Int → Int → Int → Int → Int → List (S35) → Int → Bool → Bool → Option (Int)
 | 0, _, _, _, _, _, _, _, _, _ => none
 | k + 1, i, l, h, a, b, c, d, e, g => if h < l then (if 0 ≤ h then (if h < (i.length : Int) then ((field_Open.f a b c d e g (rd i h)).bind fun j => (if j = true then (some (rd i h)) else (move_line.l0 k i l (wrap64 (h + 1)) a b c d e g))) else (none)) else (none)) else (some 0)
def move_line.f (k : Nat) (c : Int) (a : Int) (g : List (S35)) (b : Int) (d : Bool) (e : Bool) : Option (Int) := if a = 0 then (none) else ((grid_On.f c a g b d e (wrap64 (b - (Int.tmod b a))) a).bind fun h => ((grid_Span.f k c a g b d e h h).bind fun i => (move_line.l0 k i (i.length : Int) 0 c a g b d e)))
theorem move_line.mono_l : ∀ k, (∀ b c d e f g i j l, LeO (move_line.l0 k b c d e f g i j l) (move_line.l0 (k + 1) b c d e f g i j l))
 | 0 => fun _ _ _ _ _ _ _ _ _ r h => by simp [move_line.l0] at h
 | k + 1 => by
  have a := move_line.mono_l k
  ·intro b c d e f g i j l
   unfold move_line.l0
   repeat' first
   | (with_reducible exact a _ _ _ _ _ _ _ _ _)
   | (with_reducible exact grid_Span.mono _ _ _ _ _ _ _ _ _)
   | (with_reducible exact LeO.refl _)
   | (with_reducible exact LeO.none _)
   | (with_reducible refine LeO.ite ?_ ?_)
   | (with_reducible refine LeO.bind ?_ (fun _ => ?_))
   | exact a _ _ _ _ _ _ _ _ _
   | exact grid_Span.mono _ _ _ _ _ _ _ _ _
   | exact LeO.none _
   | refine LeO.ite ?_ ?_
   | refine LeO.bind ?_ (fun _ => ?_)
theorem move_line.mono : ∀ a0 a1 b c a4 d k, LeO (move_line.f k a0 a1 b c a4 d) (move_line.f (k + 1) a0 a1 b c a4 d) := by
 intro a0 a1 b c a4 d k
 have a := move_line.mono_l k
 unfold move_line.f
 repeat' first
   | (with_reducible exact a _ _ _ _ _ _ _ _ _)
   | (with_reducible exact grid_Span.mono _ _ _ _ _ _ _ _ _)
   | (with_reducible exact LeO.refl _)
   | (with_reducible exact LeO.none _)
   | (with_reducible refine LeO.ite ?_ ?_)
   | (with_reducible refine LeO.bind ?_ (fun _ => ?_))
   | exact a _ _ _ _ _ _ _ _ _
   | exact grid_Span.mono _ _ _ _ _ _ _ _ _
   | exact LeO.none _
   | refine LeO.ite ?_ ?_
   | refine LeO.bind ?_ (fun _ => ?_)
def move_line.T1 : Bool × List (List Nat × List Nat) := (true, [([], []), ([], []), ([1], [1]), ([], []), ([3], [3]), ([], []), ([5], [5]), ([4, 6], [4, 6]), ([2, 7], [2, 7]), ([], []), ([9], [9]), ([0, 8, 10], [0, 8, 10]), ([11, 11, 0, 1, 2, 3, 4, 5, 6, 7, 8, 9, 10, 11], [11])])
def move_line.B1 : List Nat := [0, 0, 2, 0, 8, 0, 32, 120, 254, 0, 512, 2047, 4095]
theorem move_line.tab1 : rtab .any (opsOf Tryd.f102 1) = move_line.T1 := by kernel_rfl
theorem move_line.bits1 : waitsOk move_line.T1.2 move_line.B1 = true := by kernel_rfl
theorem move_line.calls (k : Nat) (l : Int) (c : Int) (x : Option Addr) (y : Nat) (j : List (S35)) (g : Int) (m : Bool) (o : Bool) (r : Int) (w : World) (Q : Kd.C k35 w x j.length j) (P : j.length ≤ y) (h : move_line.f k l c j g m o = some r) :
  Calls Tryd.prog 102 #[.agg #[.int .i64 l, .int .i64 c, .slice x j.length y, .int .i64 g, .bool m, .bool o]] w fun e w' => e = .returned (.int .i64 r) ∧ Below w.heap.size w w' := by
 have ba := Tryd.underlying24
 have E := Z Q
 have D := Z P
 clear Q P
 have HB := Z (Below.refl w.heap.size w)
 have H : (if c = 0 then (none) else ((grid_On.f l c j g m o (wrap64 (g - (Int.tmod g c))) c).bind fun q => ((grid_Span.f k l c j g m o q q).bind fun b => (move_line.l0 k b (b.length : Int) 0 l c j g m o)))) = some r := h
 clear h
 by_cases c2 : c = 0
 ·rw [if_pos c2] at H
  exact absurd H (by simp)
 ·rw [if_neg c2] at H
  obtain ⟨aA, aB⟩ := eF_ c2
  replace H := Option.bind_eq_some_iff.mp H
  obtain ⟨q, au, H⟩ := H
  replace H : ((grid_Span.f k l c j g m o q q).bind fun b => (move_line.l0 k b (b.length : Int) 0 l c j g m o)) = some r := H
  have A3 := Z au
  clear au
  replace H := Option.bind_eq_some_iff.mp H
  obtain ⟨b, av, H⟩ := H
  replace H : (move_line.l0 k b (b.length : Int) 0 l c j g m o) = some r := H
  have A4 := Z av
  clear av
  have H' := Z H
  clear H
  go_enter Tryd.func102, Tryd.ntmps102
  try go_wp2_with (first | ((with_reducible refine gate_dst (N := 1) rfl ?_); refine bx_ 1 24 #[.int .i64 l, .int .i64 c, .slice x j.length y, .int .i64 g, .bool m, .bool o] ?_; intro p hg w5 hbox hb; have a := Z (hbox); have a3 := Z (ln_ hg : w.heap.size ≤ p); have a2 := a3; replace HB := bs_ hb; clear hb hbox hg))
  replace a := Z (blk_drew a.out)
  replace HB := Z (below_drew1 HB.out)
  refine start_ (n := 13) (S := fun w' => w'.cell? ⟨p, 0, none⟩ = some (.int .i64 l) ∧ w'.cell? ⟨p, 1, none⟩ = some (.int .i64 c) ∧ w'.cell? ⟨p, 2, none⟩ = some (.slice x j.length y) ∧ w'.cell? ⟨p, 3, none⟩ = some (.int .i64 g) ∧ w'.cell? ⟨p, 4, none⟩ = some (.bool m) ∧ w'.cell? ⟨p, 5, none⟩ = some (.bool o)) (ds := []) (bv 13 0) (by kernel_rfl) rfl rfl ⟨(blk_cell a.out 0).trans rfl, (blk_cell a.out 1).trans rfl, (blk_cell a.out 2).trans rfl, (blk_cell a.out 3).trans rfl, (blk_cell a.out 4).trans rfl, (blk_cell a.out 5).trans rfl⟩ (fun hHeld => ?_); refine with_tabW move_line.tab1 move_line.bits1 (fun HT_ HW_ => ?_)
  generalize w5.drew = w6 at a HB hHeld ⊢
  refine pT_ HT_ 1 13 2 (some 7) ?_
  refine pT_ HT_ 3 13 10 (some 9) ?_
  refine pT_ HT_ 5 13 42 (some 11) ?_
  refine pT_ HT_ 9 13 554 (some 15) ?_
  refine tT_ HT_ HW_ hHeld 0 13 555 (some 6) ?_
  refine tT_ HT_ HW_ hHeld 2 13 559 (some 8) ?_
  refine tT_ HT_ HW_ hHeld 4 13 575 (some 10) ?_
  refine tT_ HT_ HW_ hHeld 6 13 639 (some 12) ?_
  refine pT_ HT_ 7 13 767 (some 13) ?_
  refine pT_ HT_ 8 13 1023 (some 14) ?_
  refine tT_ HT_ HW_ hHeld 10 13 2047 (some 16) ?_
  refine oT_ HT_ 11 13 4095 (some 17) (fun K hK => ?_)
  refine goes_ Tryd.func80 (by kernel_rfl) rfl #[.agg #[.int .i64 l, .int .i64 c, .slice x j.length y, .int .i64 g, .bool m, .bool o], .int .i64 (wrap64 (g - (Int.tmod g c))), .int .i64 c] (by rfl) rfl rfl ag_ ?_
  with_reducible refine (grid_On.calls l c _ _ j g m o (wrap64 (g - (Int.tmod g c))) c q _ ?side1 ?side2 A3.out).mono ?_
  (case side1 => repeat (first | exact (Kd.C_below E.out HB.out) | (with_reducible apply pC)))
  (case side2 => exact D.out)
  rintro e w7 ⟨rfl, hb⟩
  refine ⟨_, rfl, ?_⟩
  replace a := kb' a hb
  replace HB := bs_ hb
  clear hb
  refine hK.out _ _ ⟨(blk_cell a.out 0).trans rfl, (blk_cell a.out 1).trans rfl, (blk_cell a.out 2).trans rfl, (blk_cell a.out 3).trans rfl, (blk_cell a.out 4).trans rfl, (blk_cell a.out 5).trans rfl⟩ (fun hHeld => ?_)
  clear hK K
  refine nA_ (some 17) ?_
  refine pT_ HT_ 12 13 8191 (some 3) ?_
  refine done_ (done_of HT_.out (by kernel_rfl)) ?_
  obtain ⟨X, Y, aa, ab, ac, ad, ae, af, ag, ah, ai, aj⟩ := cells6 a.out
  try go_wp2_with (first | ((with_reducible refine gate_callee (f := 103) rfl ?_); refine goesL_ (some 21) rfl rfl Tryd.func103 (by kernel_rfl) rfl #[.agg #[.int .i64 l, .int .i64 c, .slice x j.length y, .int .i64 g, .bool m, .bool o], .int .i64 q, .int .i64 q] rfl ag_ ?_; (with_reducible refine (grid_Span.calls k l c _ _ j g m o q q b _ ?side1 ?side2 A4.out).mono ?_); (case side1 => repeat (first | exact (Kd.C_below E.out HB.out) | (with_reducible apply pC))); (case side2 => exact D.out); rintro e w9 ⟨a7, rfl, ax, hb⟩; refine ⟨_, rfl, ?_⟩; have I := Z (Kd.R_lower ax (below_size bl_)); replace a := kb' a hb; replace HB := bs_ hb; clear hb ax; obtain ⟨az, aC, aD⟩ := Kd.R_slice I.out; subst aD))
  go_loopg [23] k (fun kq a4 w' => ∃ (d : Int), a4 = .int .i64 d ∧ Aside0 (move_line.l0 kq b (b.length : Int) d l c j g m o = some r) ∧ Aside0 (kq ≤ k) ∧ Aside0 (Kd.R (Kd.int .i64) 3 w' w.heap.size (fun _ => True) (.slice az b.length aC) b) ∧ Aside0 (w'.heap[p]? = some (.cells #[.int .i64 l, .int .i64 c, (.slice x j.length y), .int .i64 g, .bool m, .bool o] 24 (0, 0))) ∧ Aside0 (Below w.heap.size w w'))
  case atStart => exact ⟨(0), (dn_), H', ⟨Nat.le_refl _⟩, ⟨by (with_reducible repeat apply pR); exact I.out⟩, ⟨vK a.out⟩, ⟨bl_⟩⟩
  case round =>
   clear H'
   clear c2 aA aB X Y aa ab ac ad ae af ag ah ai aj
   obtain ⟨d, rfl, HA, aw, HO_21, a, HB⟩ := hrel
   cases gk with
   | zero => exact absurd HA.out (by simp [move_line.l0])
   | succ k1 =>
    have H := HA.out
    clear HA
    simp only [move_line.l0] at H
    by_cases F : d < (b.length : Int)
    ·rw [if_pos F] at H
     have ak : decide (d < (b.length : Int)) = true := decide_eq_true F
     clear F
     by_cases L : 0 ≤ d
     ·rw [if_pos L] at H
      have a5 : decide (0 ≤ d) = true := decide_eq_true L
      clear L
      by_cases M : d < (b.length : Int)
      ·rw [if_pos M] at H
       have a6 : decide (d < (b.length : Int)) = true := decide_eq_true M
       clear M
       replace H := Option.bind_eq_some_iff.mp H
       obtain ⟨T, U, H⟩ := H
       replace H : (if T = true then (some (rd b d)) else (move_line.l0 k1 b (b.length : Int) (wrap64 (d + 1)) l c j g m o)) = some r := H
       have ar := Z U
       clear U
       by_cases O : T = true
       ·subst O
        have H1 : (some (rd b d)) = some r := by rw [if_pos rfl] at H; exact H
        clear H
        have H := H1
        clear H1
        obtain rfl := Option.some.inj H
        have z : 0 ≤ (d : Int) := od_
        have A : d < (b.length : Int) := od_
        obtain ⟨V, G, J⟩ := Kd.at_int (Kd.R_reads' HO_21.out).2.2 d z A
        cases G
        replace z := eq_true z
        replace A := eq_true A
        obtain ⟨aE, aF, aG, aH, aI, aJ, aQ, aR, aS, aT, aU, aV⟩ := cells6 a.out
        go_wp2_with (first | ((with_reducible refine gate_callee (f := 44) rfl ?_); refine goesL_ (some 29) rfl rfl Tryd.func44 (by kernel_rfl) rfl #[.agg #[.int .i64 l, .int .i64 c, .slice x j.length y, .int .i64 g, .bool m, .bool o], .int .i64 (rd b d)] rfl ag_ ?_; (with_reducible refine (field_Open.calls l c _ _ j g m o (rd b d) true _ ?side1 ?side2 ar.out).mono ?_); (case side1 => repeat (first | exact (Kd.C_below E.out HB.out) | (with_reducible apply pC))); (case side2 => exact D.out); rintro e bb ⟨rfl, hb⟩; refine ⟨_, rfl, ?_⟩; replace HO_21 := rb' HO_21 hb; replace a := kb' a hb; replace HB := bs_ hb; clear hb))
        go_ret
        exact ⟨er_, bl_⟩
       ·replace O := Bool.eq_false_iff.mpr O
        subst O
        have H1 : (move_line.l0 k1 b (b.length : Int) (wrap64 (d + 1)) l c j g m o) = some r := by rw [if_neg (show ¬ (false = true) by decide)] at H; exact H
        clear H
        have H := H1
        clear H1
        have H' := Z H
        clear H
        have z : 0 ≤ (d : Int) := od_
        have A : d < (b.length : Int) := od_
        obtain ⟨V, G, J⟩ := Kd.at_int (Kd.R_reads' HO_21.out).2.2 d z A
        cases G
        replace z := eq_true z
        replace A := eq_true A
        obtain ⟨aK, aL, aM, aN, aO, aP, aW, aX, aY, aZ, a0, a1⟩ := cells6 a.out
        go_wp2_with (first | ((with_reducible refine gate_callee (f := 44) rfl ?_); refine goesL_ (some 29) rfl rfl Tryd.func44 (by kernel_rfl) rfl #[.agg #[.int .i64 l, .int .i64 c, .slice x j.length y, .int .i64 g, .bool m, .bool o], .int .i64 (rd b d)] rfl ag_ ?_; (with_reducible refine (field_Open.calls l c _ _ j g m o (rd b d) false _ ?side1 ?side2 ar.out).mono ?_); (case side1 => repeat (first | exact (Kd.C_below E.out HB.out) | (with_reducible apply pC))); (case side2 => exact D.out); rintro e bc ⟨rfl, hb⟩; refine ⟨_, rfl, ?_⟩; replace HO_21 := rb' HO_21 hb; replace a := kb' a hb; replace HB := bs_ hb; clear hb))
        go_roundg k1
        case measure => have := aw.out; omega
        case rel => exact ⟨(wrap64 (d + 1)), (dn_), H', ⟨by have := aw.out; omega⟩, ⟨by (with_reducible repeat apply pR); exact HO_21.out⟩, ⟨vK a.out⟩, ⟨bl_⟩⟩
      ·rw [if_neg M] at H
       exact absurd H (by simp)
     ·rw [if_neg L] at H
      exact absurd H (by simp)
    ·rw [if_neg F] at H
     have ak : decide (d < (b.length : Int)) = false := decide_eq_false F
     clear F
     obtain rfl := Option.some.inj H
     go_wp2
     go_ret
     exact ⟨er_, bl_⟩
def move_to.f (k : Nat) (d : Int) (b : Int) (c : List (S35)) (a : Int) (e : Bool) (g : Bool) (a1 : Int) : Option (Int) := if a1 = 4 then ((grid_On.f d b c a e g a (wrap64 (-b))).bind fun h => (some h)) else (if a1 = 2 then ((grid_On.f d b c a e g a (-1)).bind fun i => (some i)) else (if a1 = 5 then ((grid_On.f d b c a e g a b).bind fun j => (some j)) else (if a1 = 3 then ((grid_On.f d b c a e g a 1).bind fun l => (some l)) else (if a1 = 7 then ((field_Prev.f d b c a e g a).bind fun p => (some (mx 0 p))) else (if a1 = 6 then ((field_Next.f d b c a e g a).bind fun m => (some (mx 0 m))) else (if a1 = 8 then ((field_Next.f d b c a e g (wrap64 ((c.length : Int) - 1))).bind fun n => (some (mx 0 n))) else ((move_line.f k d b c a e g).bind fun o => (some o))))))))
theorem move_to.mono : ∀ a0 a1 a b a4 c d k, LeO (move_to.f k a0 a1 a b a4 c d) (move_to.f (k + 1) a0 a1 a b a4 c d) := by
 intro a0 a1 a b a4 c d k
 unfold move_to.f
 repeat' first
   | (with_reducible exact move_line.mono _ _ _ _ _ _ _)
   | (with_reducible exact LeO.refl _)
   | (with_reducible exact LeO.none _)
   | (with_reducible refine LeO.ite ?_ ?_)
   | (with_reducible refine LeO.bind ?_ (fun _ => ?_))
   | exact move_line.mono _ _ _ _ _ _ _
   | exact LeO.none _
   | refine LeO.ite ?_ ?_
   | refine LeO.bind ?_ (fun _ => ?_)
theorem move_to.calls (k : Nat) (l : Int) (c : Int) (o : Option Addr) (p : Nat) (d : List (S35)) (b : Int) (m : Bool) (n : Bool) (a1 : Int) (r : Int) (w : World) (X : Kd.C k35 w o d.length d) (W : d.length ≤ p) (h : move_to.f k l c d b m n a1 = some r) :
  Calls Tryd.prog 98 #[.agg #[.int .i64 l, .int .i64 c, .slice o d.length p, .int .i64 b, .bool m, .bool n], .int .i64 a1] w fun e w' => e = .returned (.int .i64 r) ∧ Below w.heap.size w w' := by
 have co := Tryd.underlying24
 have y := Z X
 have x := Z W
 clear X W
 have HB := Z (Below.refl w.heap.size w)
 have H : (if a1 = 4 then ((grid_On.f l c d b m n b (wrap64 (-c))).bind fun G => (some G)) else (if a1 = 2 then ((grid_On.f l c d b m n b (-1)).bind fun I => (some I)) else (if a1 = 5 then ((grid_On.f l c d b m n b c).bind fun J => (some J)) else (if a1 = 3 then ((grid_On.f l c d b m n b 1).bind fun K => (some K)) else (if a1 = 7 then ((field_Prev.f l c d b m n b).bind fun B => (some (mx 0 B))) else (if a1 = 6 then ((field_Next.f l c d b m n b).bind fun z => (some (mx 0 z))) else (if a1 = 8 then ((field_Next.f l c d b m n (wrap64 ((d.length : Int) - 1))).bind fun A => (some (mx 0 A))) else ((move_line.f k l c d b m n).bind fun L => (some L))))))))) = some r := h
 clear h
 by_cases c3 : a1 = 4
 ·rw [if_pos c3] at H
  obtain ⟨aw, ax⟩ := eT_ c3
  clear c3
  replace H := Option.bind_eq_some_iff.mp H
  obtain ⟨G, au, H⟩ := H
  replace H : (some G) = some r := H
  have A4 := Z au
  clear au
  obtain rfl := Option.some.inj H
  go_enter Tryd.func98, Tryd.ntmps98
  go_wp2_with (first | ((with_reducible refine gate_dst (N := 2) rfl ?_); refine bx_ 2 24 #[.int .i64 l, .int .i64 c, .slice o d.length p, .int .i64 b, .bool m, .bool n] ?_; intro g hg w5 hbox hb; have a := Z (hbox); have v := Z (ln_ hg : w.heap.size ≤ g); have u := v; replace HB := bs_ hb; clear hb hbox hg; obtain ⟨b1, b2, b3, b4, b5, b6, b7, b8, b9, ca, cb, cc⟩ := cells6 a.out) | ((with_reducible refine gate_callee (f := 80) rfl ?_); refine goesL_ (some 28) rfl rfl Tryd.func80 (by kernel_rfl) rfl #[.agg #[.int .i64 l, .int .i64 c, .slice o d.length p, .int .i64 b, .bool m, .bool n], .int .i64 b, .int .i64 (wrap64 (-c))] rfl ag_ ?_; (with_reducible refine (grid_On.calls l c _ _ d b m n b (wrap64 (-c)) G _ ?side1 ?side2 A4.out).mono ?_); (case side1 => repeat (first | exact (Kd.C_below y.out HB.out) | (with_reducible apply pC))); (case side2 => exact x.out); rintro e w7 ⟨rfl, hb⟩; refine ⟨_, rfl, ?_⟩; replace a := kb' a hb; replace HB := bs_ hb; clear hb))
  go_ret
  exact ⟨er_, bl_⟩
 ·rw [if_neg c3] at H
  obtain ⟨aw, ax⟩ := eF_ c3
  by_cases c8 : a1 = 2
  ·rw [if_pos c8] at H
   obtain ⟨ay, az⟩ := eT_ c8
   clear c8
   replace H := Option.bind_eq_some_iff.mp H
   obtain ⟨I, av, H⟩ := H
   replace H : (some I) = some r := H
   have A9 := Z av
   clear av
   obtain rfl := Option.some.inj H
   go_enter Tryd.func98, Tryd.ntmps98
   go_wp2_with (first | ((with_reducible refine gate_dst (N := 2) rfl ?_); refine bx_ 2 24 #[.int .i64 l, .int .i64 c, .slice o d.length p, .int .i64 b, .bool m, .bool n] ?_; intro g hg cp hbox hb; have a := Z (hbox); have v := Z (ln_ hg : w.heap.size ≤ g); have u := v; replace HB := bs_ hb; clear hb hbox hg; obtain ⟨aA, aB, aC, aD, aE, aF, bh, bi, bj, bk, bl, bm⟩ := cells6 a.out) | ((with_reducible refine gate_callee (f := 80) rfl ?_); refine goesL_ (some 28) rfl rfl Tryd.func80 (by kernel_rfl) rfl #[.agg #[.int .i64 l, .int .i64 c, .slice o d.length p, .int .i64 b, .bool m, .bool n], .int .i64 b, .int .i64 (-1)] rfl ag_ ?_; (with_reducible refine (grid_On.calls l c _ _ d b m n b (-1) I _ ?side1 ?side2 A9.out).mono ?_); (case side1 => repeat (first | exact (Kd.C_below y.out HB.out) | (with_reducible apply pC))); (case side2 => exact x.out); rintro e cq ⟨rfl, hb⟩; refine ⟨_, rfl, ?_⟩; replace a := kb' a hb; replace HB := bs_ hb; clear hb))
   go_ret
   exact ⟨er_, bl_⟩
  ·rw [if_neg c8] at H
   obtain ⟨ay, az⟩ := eF_ c8
   by_cases M : a1 = 5
   ·rw [if_pos M] at H
    obtain ⟨af, ag⟩ := eT_ M
    clear M
    replace H := Option.bind_eq_some_iff.mp H
    obtain ⟨J, Y, H⟩ := H
    replace H : (some J) = some r := H
    have bY := Z Y
    clear Y
    obtain rfl := Option.some.inj H
    go_enter Tryd.func98, Tryd.ntmps98
    go_wp2_with (first | ((with_reducible refine gate_dst (N := 2) rfl ?_); refine bx_ 2 24 #[.int .i64 l, .int .i64 c, .slice o d.length p, .int .i64 b, .bool m, .bool n] ?_; intro g hg cr hbox hb; have a := Z (hbox); have v := Z (ln_ hg : w.heap.size ≤ g); have u := v; replace HB := bs_ hb; clear hb hbox hg; obtain ⟨aG, aH, aI, aJ, aK, aL, bn, bo, bp, bq, br, bs⟩ := cells6 a.out) | ((with_reducible refine gate_callee (f := 80) rfl ?_); refine goesL_ (some 35) rfl rfl Tryd.func80 (by kernel_rfl) rfl #[.agg #[.int .i64 l, .int .i64 c, .slice o d.length p, .int .i64 b, .bool m, .bool n], .int .i64 b, .int .i64 c] rfl ag_ ?_; (with_reducible refine (grid_On.calls l c _ _ d b m n b c J _ ?side1 ?side2 bY.out).mono ?_); (case side1 => repeat (first | exact (Kd.C_below y.out HB.out) | (with_reducible apply pC))); (case side2 => exact x.out); rintro e ct ⟨rfl, hb⟩; refine ⟨_, rfl, ?_⟩; replace a := kb' a hb; replace HB := bs_ hb; clear hb))
    go_ret
    exact ⟨er_, bl_⟩
   ·rw [if_neg M] at H
    obtain ⟨af, ag⟩ := eF_ M
    by_cases O : a1 = 3
    ·rw [if_pos O] at H
     obtain ⟨ah, ai⟩ := eT_ O
     clear O
     replace H := Option.bind_eq_some_iff.mp H
     obtain ⟨K, aa, H⟩ := H
     replace H : (some K) = some r := H
     have bZ := Z aa
     clear aa
     obtain rfl := Option.some.inj H
     go_enter Tryd.func98, Tryd.ntmps98
     go_wp2_with (first | ((with_reducible refine gate_dst (N := 2) rfl ?_); refine bx_ 2 24 #[.int .i64 l, .int .i64 c, .slice o d.length p, .int .i64 b, .bool m, .bool n] ?_; intro g hg cu hbox hb; have a := Z (hbox); have v := Z (ln_ hg : w.heap.size ≤ g); have u := v; replace HB := bs_ hb; clear hb hbox hg; obtain ⟨aM, aN, aO, aP, aQ, aR, bt, bu, bv, bw, bx, bz⟩ := cells6 a.out) | ((with_reducible refine gate_callee (f := 80) rfl ?_); refine goesL_ (some 35) rfl rfl Tryd.func80 (by kernel_rfl) rfl #[.agg #[.int .i64 l, .int .i64 c, .slice o d.length p, .int .i64 b, .bool m, .bool n], .int .i64 b, .int .i64 1] rfl ag_ ?_; (with_reducible refine (grid_On.calls l c _ _ d b m n b 1 K _ ?side1 ?side2 bZ.out).mono ?_); (case side1 => repeat (first | exact (Kd.C_below y.out HB.out) | (with_reducible apply pC))); (case side2 => exact x.out); rintro e cv ⟨rfl, hb⟩; refine ⟨_, rfl, ?_⟩; replace a := kb' a hb; replace HB := bs_ hb; clear hb))
     go_ret
     exact ⟨er_, bl_⟩
    ·rw [if_neg O] at H
     obtain ⟨ah, ai⟩ := eF_ O
     by_cases P : a1 = 7
     ·rw [if_pos P] at H
      obtain ⟨aj, ak⟩ := eT_ P
      clear P
      replace H := Option.bind_eq_some_iff.mp H
      obtain ⟨B, ab, H⟩ := H
      replace H : (some (mx 0 B)) = some r := H
      have ap := Z ab
      clear ab
      obtain ⟨T, D⟩ : ∃ j_ : Int, (mx 0 B) = j_ := ⟨_, rfl⟩
      replace H : (some T) = some r := by first | (rw [D] at H; exact H) | (simp only [D] at H ⊢; exact H)
      (try rw [D] at ap)
      (try (have ce : 0 ≤ T := by (rw [← D]; unfold mx; (repeat' split) <;> omega)))
      (try (have cf : 0 ≤ T := by omega))
      have cd : (if 0 < B then B else 0) = T := D
      obtain rfl := Option.some.inj H
      go_enter Tryd.func98, Tryd.ntmps98
      go_wp2_with (first | ((with_reducible refine gate_dst (N := 2) rfl ?_); refine bx_ 2 24 #[.int .i64 l, .int .i64 c, .slice o d.length p, .int .i64 b, .bool m, .bool n] ?_; intro g hg cw hbox hb; have a := Z (hbox); have v := Z (ln_ hg : w.heap.size ≤ g); have u := v; replace HB := bs_ hb; clear hb hbox hg; obtain ⟨aS, aT, aU, aV, aW, aX, bA, bB, bC, bD, bE, bF⟩ := cells6 a.out) | ((with_reducible refine gate_callee (f := 101) rfl ?_); refine goesL_ (some 39) rfl rfl Tryd.func101 (by kernel_rfl) rfl #[.agg #[.int .i64 l, .int .i64 c, .slice o d.length p, .int .i64 b, .bool m, .bool n], .int .i64 b] rfl ag_ ?_; (with_reducible refine (field_Prev.calls l c _ _ d b m n b B _ ?side1 ?side2 ap.out).mono ?_); (case side1 => repeat (first | exact (Kd.C_below y.out HB.out) | (with_reducible apply pC))); (case side2 => exact x.out); rintro e cx ⟨rfl, hb⟩; refine ⟨_, rfl, ?_⟩; replace a := kb' a hb; replace HB := bs_ hb; clear hb))
      go_ret
      exact ⟨by first | rfl | (simp [errW_none, errW_some] <;> rfl) | (simp only [← D]; first | rfl | (simp [errW_none, errW_some] <;> rfl)) | (simp [*, errW_none, errW_some] <;> rfl), bl_⟩
     ·rw [if_neg P] at H
      obtain ⟨aj, ak⟩ := eF_ P
      by_cases Q : a1 = 6
      ·rw [if_pos Q] at H
       obtain ⟨al, am⟩ := eT_ Q
       clear Q
       replace H := Option.bind_eq_some_iff.mp H
       obtain ⟨z, ac, H⟩ := H
       replace H : (some (mx 0 z)) = some r := H
       have aq := Z ac
       clear ac
       obtain ⟨U, E⟩ : ∃ j_ : Int, (mx 0 z) = j_ := ⟨_, rfl⟩
       replace H : (some U) = some r := by first | (rw [E] at H; exact H) | (simp only [E] at H ⊢; exact H)
       (try rw [E] at aq)
       (try (have ch : 0 ≤ U := by (rw [← E]; unfold mx; (repeat' split) <;> omega)))
       (try (have ci : 0 ≤ U := by omega))
       have cg : (if 0 < z then z else 0) = U := E
       obtain rfl := Option.some.inj H
       go_enter Tryd.func98, Tryd.ntmps98
       go_wp2_with (first | ((with_reducible refine gate_dst (N := 2) rfl ?_); refine bx_ 2 24 #[.int .i64 l, .int .i64 c, .slice o d.length p, .int .i64 b, .bool m, .bool n] ?_; intro g hg cy hbox hb; have a := Z (hbox); have v := Z (ln_ hg : w.heap.size ≤ g); have u := v; replace HB := bs_ hb; clear hb hbox hg; obtain ⟨aY, aZ, a0, a2, a3, a4, bG, bH, bI, bJ, bK, bL⟩ := cells6 a.out) | ((with_reducible refine gate_callee (f := 67) rfl ?_); refine goesL_ (some 44) rfl rfl Tryd.func67 (by kernel_rfl) rfl #[.agg #[.int .i64 l, .int .i64 c, .slice o d.length p, .int .i64 b, .bool m, .bool n], .int .i64 b] rfl ag_ ?_; (with_reducible refine (field_Next.calls l c _ _ d b m n b z _ ?side1 ?side2 aq.out).mono ?_); (case side1 => repeat (first | exact (Kd.C_below y.out HB.out) | (with_reducible apply pC))); (case side2 => exact x.out); rintro e cz ⟨rfl, hb⟩; refine ⟨_, rfl, ?_⟩; replace a := kb' a hb; replace HB := bs_ hb; clear hb))
       go_ret
       exact ⟨by first | rfl | (simp [errW_none, errW_some] <;> rfl) | (simp only [← E]; first | rfl | (simp [errW_none, errW_some] <;> rfl)) | (simp [*, errW_none, errW_some] <;> rfl), bl_⟩
      ·rw [if_neg Q] at H
       obtain ⟨al, am⟩ := eF_ Q
       by_cases R : a1 = 8
       ·rw [if_pos R] at H
        obtain ⟨an, ao⟩ := eT_ R
        clear R
        replace H := Option.bind_eq_some_iff.mp H
        obtain ⟨A, ad, H⟩ := H
        replace H : (some (mx 0 A)) = some r := H
        have ar := Z ad
        clear ad
        obtain ⟨V, F⟩ : ∃ j_ : Int, (mx 0 A) = j_ := ⟨_, rfl⟩
        replace H : (some V) = some r := by first | (rw [F] at H; exact H) | (simp only [F] at H ⊢; exact H)
        (try rw [F] at ar)
        (try (have ck : 0 ≤ V := by (rw [← F]; unfold mx; (repeat' split) <;> omega)))
        (try (have cl : 0 ≤ V := by omega))
        have cj : (if 0 < A then A else 0) = V := F
        obtain rfl := Option.some.inj H
        go_enter Tryd.func98, Tryd.ntmps98
        go_wp2_with (first | ((with_reducible refine gate_dst (N := 2) rfl ?_); refine bx_ 2 24 #[.int .i64 l, .int .i64 c, .slice o d.length p, .int .i64 b, .bool m, .bool n] ?_; intro g hg cA hbox hb; have a := Z (hbox); have v := Z (ln_ hg : w.heap.size ≤ g); have u := v; replace HB := bs_ hb; clear hb hbox hg; obtain ⟨a5, a6, a7, a8, a9, ba, bM, bN, bO, bP, bQ, bR⟩ := cells6 a.out) | ((with_reducible refine gate_callee (f := 67) rfl ?_); refine goesL_ (some 51) rfl rfl Tryd.func67 (by kernel_rfl) rfl #[.agg #[.int .i64 l, .int .i64 c, .slice o d.length p, .int .i64 b, .bool m, .bool n], .int .i64 (wrap64 ((d.length : Int) - 1))] rfl ag_ ?_; (with_reducible refine (field_Next.calls l c _ _ d b m n (wrap64 ((d.length : Int) - 1)) A _ ?side1 ?side2 ar.out).mono ?_); (case side1 => repeat (first | exact (Kd.C_below y.out HB.out) | (with_reducible apply pC))); (case side2 => exact x.out); rintro e cB ⟨rfl, hb⟩; refine ⟨_, rfl, ?_⟩; replace a := kb' a hb; replace HB := bs_ hb; clear hb))
        go_ret
        exact ⟨by first | rfl | (simp [errW_none, errW_some] <;> rfl) | (simp only [← F]; first | rfl | (simp [errW_none, errW_some] <;> rfl)) | (simp [*, errW_none, errW_some] <;> rfl), bl_⟩
       ·rw [if_neg R] at H
        obtain ⟨an, ao⟩ := eF_ R
        replace H := Option.bind_eq_some_iff.mp H
        obtain ⟨L, ae, H⟩ := H
        replace H : (some L) = some r := H
        have b0 := Z ae
        clear ae
        obtain rfl := Option.some.inj H
        go_enter Tryd.func98, Tryd.ntmps98
        go_wp2_with (first | ((with_reducible refine gate_dst (N := 2) rfl ?_); refine bx_ 2 24 #[.int .i64 l, .int .i64 c, .slice o d.length p, .int .i64 b, .bool m, .bool n] ?_; intro g hg cC hbox hb; have a := Z (hbox); have v := Z (ln_ hg : w.heap.size ≤ g); have u := v; replace HB := bs_ hb; clear hb hbox hg; obtain ⟨bb, bc, bd, be, bf, bg, bS, bT, bU, bV, bW, bX⟩ := cells6 a.out) | ((with_reducible refine gate_callee (f := 102) rfl ?_); refine goesL_ (some 54) rfl rfl Tryd.func102 (by kernel_rfl) rfl #[.agg #[.int .i64 l, .int .i64 c, .slice o d.length p, .int .i64 b, .bool m, .bool n]] rfl ag_ ?_; (with_reducible refine (move_line.calls k l c _ _ d b m n L _ ?side1 ?side2 b0.out).mono ?_); (case side1 => repeat (first | exact (Kd.C_below y.out HB.out) | (with_reducible apply pC))); (case side2 => exact x.out); rintro e cD ⟨rfl, hb⟩; refine ⟨_, rfl, ?_⟩; replace a := kb' a hb; replace HB := bs_ hb; clear hb))
        go_ret
        exact ⟨er_, bl_⟩
def move_Do.f (k : Nat) (c : Int) (d : Int) (h : List (S35)) (e : Int) (b : Bool) (g : Bool) (a1 : Int) : Option (Int × Int × (List (S35)) × Int × Bool × Bool × Option Er × (List (S164))) := (move_Moves.f a1).bind fun i => (if i = true then (if b = true then (some (c, d, h, e, b, g, some (Er.num 7), ([] : List (S164)))) else ((grid_Copy.f c d h e b g).bind fun a => ((move_to.f k a.1 a.2.1 a.2.2.1 a.2.2.2.1 a.2.2.2.2.1 a.2.2.2.2.2 a1).bind fun j => (some (a.1, a.2.1, a.2.2.1, j, a.2.2.2.2.1, a.2.2.2.2.2, none, ([] : List (S164))))))) else (some (c, d, h, e, b, g, some (Er.num 1), ([] : List (S164)))))
theorem move_Do.mono : ∀ a0 a1 a b a4 c d k, LeO (move_Do.f k a0 a1 a b a4 c d) (move_Do.f (k + 1) a0 a1 a b a4 c d) := by
 intro a0 a1 a b a4 c d k
 unfold move_Do.f
 repeat' first
   | (with_reducible exact move_to.mono _ _ _ _ _ _ _ _)
   | (with_reducible exact LeO.refl _)
   | (with_reducible exact LeO.none _)
   | (with_reducible refine LeO.ite ?_ ?_)
   | (with_reducible refine LeO.bind ?_ (fun _ => ?_))
   | exact move_to.mono _ _ _ _ _ _ _ _
   | exact LeO.none _
   | refine LeO.ite ?_ ?_
   | refine LeO.bind ?_ (fun _ => ?_)
theorem move_Do.calls (k : Nat) (q : Int) (r : Int) (T : Nat → Prop) (G : Option Addr) (I : Nat) (m : List (S35)) (s : Int) (F : Bool) (u : Bool) (a1 : Int) (r1 : Int) (r2 : Int) (r3 : List (S35)) (r4 : Int) (r5 : Bool) (r6 : Bool) (r7 : Option Er) (r8 : List (S164)) (w : World) (aq : Kd.V k35 35 w w.heap.size (fun k_ => T k_) (.slice G m.length I) m) (h : move_Do.f k q r m s F u a1 = some (r1, r2, r3, r4, r5, r6, r7, r8)) :
  Calls Tryd.prog 86 #[.agg #[.int .i64 q, .int .i64 r, .slice G m.length I, .int .i64 s, .bool F, .bool u], .int .i64 a1] w fun e w' => ∃ au av : Value, e = .returned (.tuple #[.agg #[.int .i64 r1, .int .i64 r2, au, .int .i64 r4, .bool r5, .bool r6], errW av r7]) ∧ Kd.V k35 35 w' w.heap.size (fun k_ => (T k_ ∨ w.heap.size ≤ k_)) au r3 ∧ Kd.V k164 164 w' w.heap.size (fun k_ => (T k_ ∨ w.heap.size ≤ k_)) av r8 ∧ Below w.heap.size w w' := by
 have ci := Tryd.underlying24
 have cj := Tryd.underlying28
 have ck := Tryd.underlying52
 have j := Z (show Kd.V k35 35 w w.heap.size (fun k_ => (T k_ ∨ w.heap.size ≤ k_)) (.slice G m.length I) m from Kd.V_mono aq (fun k_ hk => .inl hk))
 have HB := Z (Below.refl w.heap.size w)
 have H : ((move_Moves.f a1).bind fun Y => (if Y = true then (if F = true then (some (q, r, m, s, F, u, some (Er.num 7), ([] : List (S164)))) else ((grid_Copy.f q r m s F u).bind fun a => ((move_to.f k a.1 a.2.1 a.2.2.1 a.2.2.2.1 a.2.2.2.2.1 a.2.2.2.2.2 a1).bind fun B => (some (a.1, a.2.1, a.2.2.1, B, a.2.2.2.2.1, a.2.2.2.2.2, none, ([] : List (S164))))))) else (some (q, r, m, s, F, u, some (Er.num 1), ([] : List (S164)))))) = some (r1, r2, r3, r4, r5, r6, r7, r8) := h
 clear h
 replace H := Option.bind_eq_some_iff.mp H
 obtain ⟨Y, ar, H⟩ := H
 replace H : (if Y = true then (if F = true then (some (q, r, m, s, F, u, some (Er.num 7), ([] : List (S164)))) else ((grid_Copy.f q r m s F u).bind fun a => ((move_to.f k a.1 a.2.1 a.2.2.1 a.2.2.2.1 a.2.2.2.2.1 a.2.2.2.2.2 a1).bind fun B => (some (a.1, a.2.1, a.2.2.1, B, a.2.2.2.2.1, a.2.2.2.2.2, none, ([] : List (S164))))))) else (some (q, r, m, s, F, u, some (Er.num 1), ([] : List (S164))))) = some (r1, r2, r3, r4, r5, r6, r7, r8) := H
 have A3 := Z ar
 clear ar
 by_cases c4 : Y = true
 ·subst c4
  have H1 : (if F = true then (some (q, r, m, s, F, u, some (Er.num 7), ([] : List (S164)))) else ((grid_Copy.f q r m s F u).bind fun a => ((move_to.f k a.1 a.2.1 a.2.2.1 a.2.2.2.1 a.2.2.2.2.1 a.2.2.2.2.2 a1).bind fun B => (some (a.1, a.2.1, a.2.2.1, B, a.2.2.2.2.1, a.2.2.2.2.2, none, ([] : List (S164))))))) = some (r1, r2, r3, r4, r5, r6, r7, r8) := by rw [if_pos rfl] at H; exact H
  clear H
  have H := H1
  clear H1
  by_cases c5 : F = true
  ·subst c5
   have H1 : (some (q, r, m, s, true, u, some (Er.num 7), ([] : List (S164)))) = some (r1, r2, r3, r4, r5, r6, r7, r8) := by rw [if_pos rfl] at H; exact H
   clear H
   have H := H1
   clear H1
   simp only [Option.some.injEq, Prod.mk.injEq] at H
   obtain ⟨rfl, rfl, rfl, rfl, rfl, rfl, rfl, rfl⟩ := H
   go_enter Tryd.func86, Tryd.ntmps86
   go_wp2_with (first | ((with_reducible refine gate_dst (N := 2) rfl ?_); refine bx_ 2 24 #[.int .i64 q, .int .i64 r, .slice G m.length I, .int .i64 s, .bool true, .bool u] ?_; intro i hg w6 hbox hb; replace j := Z (ve j.out hg hb); have b := Z (hbox); have al := Z (ln_ hg : w.heap.size ≤ i); have aj := al; replace HB := bs_ hb; clear hb hbox hg) | ((with_reducible refine gate_dst (N := 4) rfl ?_); refine bx_ 4 24 #[.int .i64 0, .int .i64 0, .slice none 0 0, .int .i64 0, .bool false, .bool false] ?_; intro d hg w7 hbox hb; replace j := Z (ve j.out hg hb); have l := Z (hbox); have am := Z (ln_ hg : w.heap.size ≤ d); have ak := am; replace HB := bs_ hb; have L := nl' b hg; have C := ng' b hg; replace b := kb' b hb; clear hb hbox hg) | ((with_reducible refine gate_callee (f := 85) rfl ?_); refine goesL_ (some 8) rfl rfl Tryd.func85 (by kernel_rfl) rfl #[.int .i64 a1] rfl ag_ ?_; (with_reducible refine (move_Moves.calls a1 true _ A3.out).mono ?_); rintro e w' ⟨rfl, ⟨nd, rfl⟩⟩; refine ⟨_, rfl, ?_⟩; (try (rw [drewN_self w7]; generalize hq_ : World.drewN w7 _ = w7; replace j := Z (qV hq_ j.out); replace b := Z (qM hq_ b.out); replace l := Z (qM hq_ l.out); replace HB := Z (qB hq_ HB.out); clear hq_)); have cg := L.out; have ch := C.out; obtain ⟨bZ, b0, b1, b2, b3, b4, b5, b6, b7, b8, b9, ca⟩ := cells6 b.out; obtain ⟨ay, az, aA, aB, aC, aD, bf, bg, bh, bi, bj, bk⟩ := cells6 l.out))
   refine bodyPost_ret (results_ct rfl _ _ d 24 #[.int .i64 q, .int .i64 r, .slice G m.length I, .int .i64 s, .bool true, .bool u] (0, 0) _ rfl (put6 l.out) Tryd.underlying24 rfl (by kernel_rfl)) rfl ?_
   exact ⟨_, _, er_, by (with_reducible repeat apply pV); exact Kd.V_mono (f6V d (Kd.V_mono j.out (fun k_ hk => (⟨hk, hk.2⟩ : _ ∧ k_ ≠ d))) (fun _ hk => hk.2)) (fun _ hk => hk.1.1.1), Kd.R_V (Kd.R_nil _ _ _ 0 _), bl_⟩
  ·replace c5 := Bool.eq_false_iff.mpr c5
   subst c5
   have H1 : ((grid_Copy.f q r m s false u).bind fun a => ((move_to.f k a.1 a.2.1 a.2.2.1 a.2.2.2.1 a.2.2.2.2.1 a.2.2.2.2.2 a1).bind fun B => (some (a.1, a.2.1, a.2.2.1, B, a.2.2.2.2.1, a.2.2.2.2.2, none, ([] : List (S164)))))) = some (r1, r2, r3, r4, r5, r6, r7, r8) := by rw [if_neg (show ¬ (false = true) by decide)] at H; exact H
   clear H
   have H := H1
   clear H1
   replace H := Option.bind_eq_some_iff.mp H
   obtain ⟨⟨A, D, E, R, K, O⟩, an, H⟩ := H
   replace H : ((move_to.f k A D E R K O a1).bind fun B => (some (A, D, E, B, K, O, none, ([] : List (S164))))) = some (r1, r2, r3, r4, r5, r6, r7, r8) := H
   have bW := Z an
   clear an
   replace H := Option.bind_eq_some_iff.mp H
   obtain ⟨B, ao, H⟩ := H
   replace H : (some (A, D, E, B, K, O, none, ([] : List (S164)))) = some (r1, r2, r3, r4, r5, r6, r7, r8) := H
   have bX := Z ao
   clear ao
   simp only [Option.some.injEq, Prod.mk.injEq] at H
   obtain ⟨rfl, rfl, rfl, rfl, rfl, rfl, rfl, rfl⟩ := H
   go_enter Tryd.func86, Tryd.ntmps86
   go_wp2_with (first | ((with_reducible refine gate_dst (N := 2) rfl ?_); refine bx_ 2 24 #[.int .i64 q, .int .i64 r, .slice G m.length I, .int .i64 s, .bool false, .bool u] ?_; intro i hg cl hbox hb; replace j := Z (ve j.out hg hb); have b := Z (hbox); have al := Z (ln_ hg : w.heap.size ≤ i); have aj := al; replace HB := bs_ hb; clear hb hbox hg) | ((with_reducible refine gate_dst (N := 4) rfl ?_); refine bx_ 4 24 #[.int .i64 0, .int .i64 0, .slice none 0 0, .int .i64 0, .bool false, .bool false] ?_; intro d hg aa hbox hb; replace j := Z (ve j.out hg hb); have l := Z (hbox); have am := Z (ln_ hg : w.heap.size ≤ d); have ak := am; replace HB := bs_ hb; have L := nl' b hg; have C := ng' b hg; replace b := kb' b hb; clear hb hbox hg) | ((with_reducible refine gate_callee (f := 85) rfl ?_); refine goesL_ (some 8) rfl rfl Tryd.func85 (by kernel_rfl) rfl #[.int .i64 a1] rfl ag_ ?_; (with_reducible refine (move_Moves.calls a1 true _ A3.out).mono ?_); rintro e w' ⟨rfl, ⟨nd, rfl⟩⟩; refine ⟨_, rfl, ?_⟩; (try (rw [drewN_self aa]; generalize hq_ : World.drewN aa _ = aa; replace j := Z (qV hq_ j.out); replace b := Z (qM hq_ b.out); replace l := Z (qM hq_ l.out); replace HB := Z (qB hq_ HB.out); clear hq_)); have cb := L.out; have cd := C.out; obtain ⟨aE, aF, aG, aH, aI, aJ, bl, bm, bn, bo, bp, bq⟩ := cells6 b.out) | ((with_reducible refine gate_callee (f := 61) rfl ?_); refine goesL_ (some 18) rfl rfl Tryd.func61 (by kernel_rfl) rfl #[.agg #[.int .i64 q, .int .i64 r, .slice G m.length I, .int .i64 s, .bool false, .bool u]] rfl ag_ ?_; (with_reducible refine (grid_Copy.calls q r _ _ m s false u A D E R K O _ ?side1 ?side2 bW.out).mono ?_); (case side1 => repeat (first | exact (Kd.V_reads' j.out).2.2 | (with_reducible apply pC))); (case side2 => exact (Kd.V_reads' j.out).2.1); rintro e cm ⟨cf, rfl, ap, hb⟩; refine ⟨_, rfl, ?_⟩; replace j := Z (Kd.V_elder' (vV j.out) (Kd.R_base ap) hb); have P := Z (Kd.R_lower (Kd.R_newM (M := fun k_ => (w.heap.size ≤ k_)) ap (below_size bl_) (fun k_ h_ => h_)) (below_size bl_)); replace b := kb' b hb; replace l := kb' l hb; replace HB := bs_ hb; clear hb ap; obtain ⟨aK, aL, aM, aN, aO, aP, br, bs, bt, bu, bv, bw⟩ := cells6 b.out; obtain ⟨S, Q, ax⟩ := Kd.R_slice P.out; subst ax) | ((with_reducible refine gate_callee (f := 98) rfl ?_); refine goesL_ (some 21) rfl rfl Tryd.func98 (by kernel_rfl) rfl #[.agg #[.int .i64 A, .int .i64 D, .slice S E.length Q, .int .i64 R, .bool K, .bool O], .int .i64 a1] rfl ag_ ?_; (with_reducible refine (move_to.calls k A D _ _ E R K O a1 B _ ?side1 ?side2 bX.out).mono ?_); (case side1 => refine (Kd.R_reads' (e := 35) (base := w.heap.size) (ok := fun k_ => (((w.heap.size ≤ k_)) ∧ True)) (n := E.length) (c := Q) ?_).2.2; exact (by (with_reducible repeat apply pR); exact (Kd.R_mono (f6R i (Kd.R_types P.out b.out (by decide)) (fun _ hk => hk.2)) (fun _ h_ => h_.1)))); (case side2 => exact (Kd.R_reads' P.out).2.1); rintro e cn ⟨rfl, hb⟩; refine ⟨_, rfl, ?_⟩; replace j := Z (Kd.V_below (by (with_reducible repeat apply pV); exact (Kd.V_mono (f6V i (Kd.V_mono j.out (fun k_ hk => (⟨hk, hk.1.1.2⟩ : _ ∧ k_ ≠ i))) (fun _ hk => hk.2)) (fun _ h_ => h_.1))) hb); replace P := Z (Kd.R_below (by (with_reducible repeat apply pR); exact (Kd.R_mono (f6R i (Kd.R_types P.out b.out (by decide)) (fun _ hk => hk.2)) (fun _ h_ => h_.1))) hb); replace b := Z (blk_below (g := i) (o := .cells #[.int .i64 A, .int .i64 D, .slice S E.length Q, .int .i64 R, .bool K, .bool O] 24 (0, 0)) (put6 b.out) hb); replace l := Z (blk_below (g := d) (o := .cells #[.int .i64 0, .int .i64 0, .slice none 0 0, .int .i64 0, .bool false, .bool false] 24 (0, 0)) (blk_off l.out C.out off2_) hb); replace HB := bs_ hb; clear hb; obtain ⟨aQ, aR, aS, aT, aU, aV, bx, bz, bA, bB, bC, bD⟩ := cells6 b.out; obtain ⟨aW, aX, aY, aZ, a0, a2, bE, bF, bG, bH, bI, bJ⟩ := cells6 l.out))
   refine bodyPost_ret (results_ct rfl _ _ d 24 #[.int .i64 A, .int .i64 D, .slice S E.length Q, .int .i64 B, .bool K, .bool O] (0, 0) _ rfl (by (with_reducible repeat apply pK); refine blk_put (cs := #[.int .i64 A, .int .i64 D, .slice S E.length Q, .int .i64 B, .bool K, .bool false]) ?_ 5 _ rfl; (with_reducible repeat apply pK); refine blk_put (cs := #[.int .i64 A, .int .i64 D, .slice S E.length Q, .int .i64 B, .bool false, .bool false]) ?_ 4 _ rfl; (with_reducible repeat apply pK); refine blk_put (cs := #[.int .i64 A, .int .i64 D, .slice S E.length Q, .int .i64 0, .bool false, .bool false]) ?_ 3 _ rfl; (with_reducible repeat apply pK); refine blk_put (cs := #[.int .i64 A, .int .i64 D, .slice none 0 0, .int .i64 0, .bool false, .bool false]) ?_ 2 _ rfl; (with_reducible repeat apply pK); refine blk_put (cs := #[.int .i64 A, .int .i64 0, .slice none 0 0, .int .i64 0, .bool false, .bool false]) ?_ 1 _ rfl; (with_reducible repeat apply pK); refine blk_put (cs := #[.int .i64 0, .int .i64 0, .slice none 0 0, .int .i64 0, .bool false, .bool false]) ?_ 0 _ rfl; (with_reducible repeat apply pK); refine blk_far ?_ C.out _; (with_reducible repeat apply pK); exact l.out) Tryd.underlying24 rfl (by kernel_rfl)) rfl ?_
   exact ⟨_, _, er_, Kd.V_mono (Kd.R_V (by (with_reducible repeat apply pR); exact Kd.R_mono (f6R d (Kd.R_far (p := ⟨i, 3, none⟩) (Kd.R_types (Kd.R_types P.out b.out (by decide)) l.out (by decide)) (fun _ hk => hk.1.2) (.int .i64 B)) (fun _ hk => hk.2)) (fun _ hk => hk.1.1.1))) (fun k_ hk => by first | exact ⟨(.inr (hk.1)), hk.2⟩ | exact (.inr (hk))), Kd.R_V (Kd.R_nil _ _ _ 0 _), bl_⟩
 ·replace c4 := Bool.eq_false_iff.mpr c4
  subst c4
  have H1 : (some (q, r, m, s, F, u, some (Er.num 1), ([] : List (S164)))) = some (r1, r2, r3, r4, r5, r6, r7, r8) := by rw [if_neg (show ¬ (false = true) by decide)] at H; exact H
  clear H
  have H := H1
  clear H1
  simp only [Option.some.injEq, Prod.mk.injEq] at H
  obtain ⟨rfl, rfl, rfl, rfl, rfl, rfl, rfl, rfl⟩ := H
  go_enter Tryd.func86, Tryd.ntmps86
  go_wp2_with (first | ((with_reducible refine gate_dst (N := 2) rfl ?_); refine bx_ 2 24 #[.int .i64 q, .int .i64 r, .slice G m.length I, .int .i64 s, .bool F, .bool u] ?_; intro i hg co hbox hb; replace j := Z (ve j.out hg hb); have b := Z (hbox); have al := Z (ln_ hg : w.heap.size ≤ i); have aj := al; replace HB := bs_ hb; clear hb hbox hg) | ((with_reducible refine gate_dst (N := 4) rfl ?_); refine bx_ 4 24 #[.int .i64 0, .int .i64 0, .slice none 0 0, .int .i64 0, .bool false, .bool false] ?_; intro d hg ab hbox hb; replace j := Z (ve j.out hg hb); have l := Z (hbox); have am := Z (ln_ hg : w.heap.size ≤ d); have ak := am; replace HB := bs_ hb; have L := nl' b hg; have C := ng' b hg; replace b := kb' b hb; clear hb hbox hg) | ((with_reducible refine gate_callee (f := 85) rfl ?_); refine goesL_ (some 8) rfl rfl Tryd.func85 (by kernel_rfl) rfl #[.int .i64 a1] rfl ag_ ?_; (with_reducible refine (move_Moves.calls a1 false _ A3.out).mono ?_); rintro e w' ⟨rfl, ⟨nd, rfl⟩⟩; refine ⟨_, rfl, ?_⟩; (try (rw [drewN_self ab]; generalize hq_ : World.drewN ab _ = ab; replace j := Z (qV hq_ j.out); replace b := Z (qM hq_ b.out); replace l := Z (qM hq_ l.out); replace HB := Z (qB hq_ HB.out); clear hq_)); have cc := L.out; have ce := C.out; obtain ⟨a3, a4, a5, a6, a7, a8, bK, bL, bM, bN, bO, bP⟩ := cells6 b.out; obtain ⟨a9, ba, bb, bc, bd, be, bQ, bR, bS, bT, bU, bV⟩ := cells6 l.out))
  refine bodyPost_ret (results_ct rfl _ _ d 24 #[.int .i64 q, .int .i64 r, .slice G m.length I, .int .i64 s, .bool F, .bool u] (0, 0) _ rfl (put6 l.out) Tryd.underlying24 rfl (by kernel_rfl)) rfl ?_
  exact ⟨_, _, er_, by (with_reducible repeat apply pV); exact Kd.V_mono (f6V d (Kd.V_mono j.out (fun k_ hk => (⟨hk, hk.2⟩ : _ ∧ k_ ≠ d))) (fun _ hk => hk.2)) (fun _ hk => hk.1.1.1), Kd.R_V (Kd.R_nil _ _ _ 0 _), bl_⟩
def keys_dup.f (k : Nat) (d : Int) (e : Int) (i : List (S35)) (b : Int) (g : Bool) (h : Bool) : Option (Int × Int × (List (S35)) × Int × Bool × Bool × Option Er × (List (S164))) := (edit_Type.f k d e i b g h 28).bind fun a => (if a.2.2.2.2.2.2.1.isNone = true then ((field_Next.f a.1 a.2.1 a.2.2.1 a.2.2.2.1 a.2.2.2.2.1 a.2.2.2.2.2.1 b).bind fun c => (some (a.1, a.2.1, a.2.2.1, mx 0 c, a.2.2.2.2.1, a.2.2.2.2.2.1, none, ([] : List (S164))))) else (some (a.1, a.2.1, a.2.2.1, a.2.2.2.1, a.2.2.2.2.1, a.2.2.2.2.2.1, some (a.2.2.2.2.2.2.1.getD ez), a.2.2.2.2.2.2.2)))
theorem keys_dup.mono : ∀ a0 a1 a b a4 c k, LeO (keys_dup.f k a0 a1 a b a4 c) (keys_dup.f (k + 1) a0 a1 a b a4 c) := by
 intro a0 a1 a b a4 c k
 unfold keys_dup.f
 repeat' first
   | (with_reducible exact edit_Type.mono _ _ _ _ _ _ _ _)
   | (with_reducible exact LeO.refl _)
   | (with_reducible exact LeO.none _)
   | (with_reducible refine LeO.ite ?_ ?_)
   | (with_reducible refine LeO.bind ?_ (fun _ => ?_))
   | exact edit_Type.mono _ _ _ _ _ _ _ _
   | exact LeO.none _
   | refine LeO.ite ?_ ?_
   | refine LeO.bind ?_ (fun _ => ?_)
theorem keys_dup.calls (k : Nat) (X : Int) (Y : Int) (J : Nat → Prop) (ac : Option Addr) (ae : Nat) (K : List (S35)) (G : Int) (aa : Bool) (ab : Bool) (r1 : Int) (r2 : Int) (r3 : List (S35)) (r4 : Int) (r5 : Bool) (r6 : Bool) (r7 : Option Er) (r8 : List (S164)) (w : World) (aI : Kd.V k35 35 w w.heap.size (fun k_ => J k_) (.slice ac K.length ae) K) (h : keys_dup.f k X Y K G aa ab = some (r1, r2, r3, r4, r5, r6, r7, r8)) :
  Calls Tryd.prog 87 #[.agg #[.int .i64 X, .int .i64 Y, .slice ac K.length ae, .int .i64 G, .bool aa, .bool ab]] w fun e w' => ∃ aO aP : Value, e = .returned (.tuple #[.agg #[.int .i64 r1, .int .i64 r2, aO, .int .i64 r4, .bool r5, .bool r6], errW aP r7]) ∧ Kd.V k35 35 w' w.heap.size (fun k_ => (J k_ ∨ w.heap.size ≤ k_)) aO r3 ∧ Kd.V k164 164 w' w.heap.size (fun k_ => (J k_ ∨ w.heap.size ≤ k_)) aP r8 ∧ Below w.heap.size w w' := by
 have cJ := Tryd.underlying24
 have cK := Tryd.underlying28
 have cL := Tryd.underlying52
 have q := Z (show Kd.V k35 35 w w.heap.size (fun k_ => (J k_ ∨ w.heap.size ≤ k_)) (.slice ac K.length ae) K from Kd.V_mono aI (fun k_ hk => .inl hk))
 have HB := Z (Below.refl w.heap.size w)
 have H : ((edit_Type.f k X Y K G aa ab 28).bind fun u => (if u.2.2.2.2.2.2.1.isNone = true then ((field_Next.f u.1 u.2.1 u.2.2.1 u.2.2.2.1 u.2.2.2.2.1 u.2.2.2.2.2.1 G).bind fun L => (some (u.1, u.2.1, u.2.2.1, mx 0 L, u.2.2.2.2.1, u.2.2.2.2.2.1, none, ([] : List (S164))))) else (some (u.1, u.2.1, u.2.2.1, u.2.2.2.1, u.2.2.2.2.1, u.2.2.2.2.2.1, some (u.2.2.2.2.2.2.1.getD ez), u.2.2.2.2.2.2.2)))) = some (r1, r2, r3, r4, r5, r6, r7, r8) := h
 clear h
 replace H := Option.bind_eq_some_iff.mp H
 obtain ⟨⟨i, l, m, x, r, v, ao, aj⟩, aL, H⟩ := H
 replace H : (if ao.isNone = true then ((field_Next.f i l m x r v G).bind fun L => (some (i, l, m, mx 0 L, r, v, none, ([] : List (S164))))) else (some (i, l, m, x, r, v, some (ao.getD ez), aj))) = some (r1, r2, r3, r4, r5, r6, r7, r8) := H
 have A2 := Z aL
 clear aL
 rcases ao with _ | an
 ·have H1 : ((field_Next.f i l m x r v G).bind fun L => (some (i, l, m, mx 0 L, r, v, none, ([] : List (S164))))) = some (r1, r2, r3, r4, r5, r6, r7, r8) := by rw [if_pos (show (none : Option Er).isNone = true by rfl)] at H; exact H
  clear H
  have H := H1
  clear H1
  try simp only [errW_none, errW_some]
  replace H := Option.bind_eq_some_iff.mp H
  obtain ⟨L, aM, H⟩ := H
  replace H : (some (i, l, m, mx 0 L, r, v, none, ([] : List (S164)))) = some (r1, r2, r3, r4, r5, r6, r7, r8) := H
  have A3 := Z aM
  clear aM
  obtain ⟨ai, ah⟩ : ∃ j_ : Int, (mx 0 L) = j_ := ⟨_, rfl⟩
  replace H : (some (i, l, m, ai, r, v, none, ([] : List (S164)))) = some (r1, r2, r3, r4, r5, r6, r7, r8) := by first | (rw [ah] at H; exact H) | (simp only [ah] at H ⊢; exact H)
  (try rw [ah] at A2)
  (try rw [ah] at A3)
  (try (have cv : 0 ≤ ai := by (rw [← ah]; unfold mx; (repeat' split) <;> omega)))
  (try (have cw : 0 ≤ ai := by omega))
  have cu : (if 0 < L then L else 0) = ai := ah
  simp only [Option.some.injEq, Prod.mk.injEq] at H
  obtain ⟨rfl, rfl, rfl, rfl, rfl, rfl, rfl, rfl⟩ := H
  go_enter Tryd.func87, Tryd.ntmps87
  go_wp2_with (first | ((with_reducible refine gate_dst (N := 1) rfl ?_); refine bx_ 1 24 #[.int .i64 X, .int .i64 Y, .slice ac K.length ae, .int .i64 G, .bool aa, .bool ab] ?_; intro z hg w5 hbox hb; replace q := Z (ve q.out hg hb); have b := Z (hbox); have aF := Z (ln_ hg : w.heap.size ≤ z); have aC := aF; replace HB := bs_ hb; clear hb hbox hg) | ((with_reducible refine gate_dst (N := 2) rfl ?_); refine bx_ 2 24 #[.int .i64 0, .int .i64 0, .slice none 0 0, .int .i64 0, .bool false, .bool false] ?_; intro d hg w6 hbox hb; replace q := Z (ve q.out hg hb); have j := Z (hbox); have aG := Z (ln_ hg : w.heap.size ≤ d); have aD := aG; replace HB := bs_ hb; have S := nl' b hg; have T := ng' b hg; replace b := kb' b hb; clear hb hbox hg; have cH := S.out; have cI := T.out; obtain ⟨ch, ci, cj, ck, cl, cm, cn, co, cp, cq, cr, ct⟩ := cells6 b.out) | ((with_reducible refine gate_callee (f := 31) rfl ?_); refine goesL_ (some 8) rfl rfl Tryd.func31 (by kernel_rfl) rfl #[.agg #[.int .i64 X, .int .i64 Y, .slice ac K.length ae, .int .i64 G, .bool aa, .bool ab], .int .u8 28] rfl ag_ ?_; (with_reducible refine (edit_Type.calls k X Y (fun k_ => (((J k_ ∨ w.heap.size ≤ k_) ∧ k_ ≠ z) ∧ k_ ≠ d)) _ _ K G aa ab 28 i l m x r v none aj _ ?side1 A2.out).mono ?_); (case side1 => exact q.out); rintro e w9 ⟨aJ, aK, rfl, ap, aq, hb⟩; refine ⟨_, rfl, ?_⟩; replace q := vb' q hb; have y := Z (Kd.V_lower (Kd.V_mono (ok' := fun k_ => (J k_ ∨ w.heap.size ≤ k_) ∧ k_ ≠ z ∧ k_ ≠ d) ap (fun k_ hk_ => hk_.elim (fun hs_ => ⟨hs_.1.1, hs_.1.2, hs_.2⟩) (fun hn_ => ⟨(ir_ hn_), (fb b.out k_ hn_), (fb j.out k_ hn_)⟩))) (below_size bl_)); have F := Z (Kd.V_lower (Kd.V_mono (ok' := fun k_ => (J k_ ∨ w.heap.size ≤ k_) ∧ k_ ≠ z ∧ k_ ≠ d) aq (fun k_ hk_ => hk_.elim (fun hs_ => ⟨hs_.1.1, hs_.1.2, hs_.2⟩) (fun hn_ => ⟨(ir_ hn_), (fb b.out k_ hn_), (fb j.out k_ hn_)⟩))) (below_size bl_)); replace b := kb' b hb; replace j := kb' j hb; replace HB := bs_ hb; clear hb ap aq; (try simp only [errW_none, errW_some])) | ((with_reducible refine gate_dst (N := 4) rfl ?_); refine bx_ 4 24 #[.int .i64 0, .int .i64 0, .slice none 0 0, .int .i64 0, .bool false, .bool false] ?_; intro a hg cM hbox hb; replace q := Z (ve q.out hg hb); replace y := Z (ve y.out hg hb); replace F := Z (ve F.out hg hb); have Q := Z (hbox); have aH := Z (ln_ hg : w.heap.size ≤ a); have aE := aH; replace HB := bs_ hb; have M := nl' b hg; have U := ng' b hg; replace b := kb' b hb; have s := nl' j hg; have W := ng' j hg; replace j := kb' j hb; clear hb hbox hg; have cx := U.out; have cC := M.out; have cy := W.out; have cD := s.out; obtain ⟨aT, aU, aV, aW, aX, aY, bA, bB, bC, bD, bE, bF⟩ := cells6 Q.out; obtain ⟨P, O, aR⟩ := Kd.V_slice y.out; subst aR; obtain ⟨aZ, a0, a1, a2, a3, a4, bG, bH, bI, bJ, bK, bL⟩ := cells6 b.out) | ((with_reducible refine gate_callee (f := 67) rfl ?_); refine goesL_ (some 18) rfl rfl Tryd.func67 (by kernel_rfl) rfl #[.agg #[.int .i64 i, .int .i64 l, .slice P m.length O, .int .i64 x, .bool r, .bool v], .int .i64 G] rfl ag_ ?_; (with_reducible refine (field_Next.calls i l _ _ m x r v G L _ ?side1 ?side2 A3.out).mono ?_); (case side1 => refine (Kd.V_reads' (e := 35) (base := w.heap.size) (ok := fun k_ => ((((J k_ ∨ w.heap.size ≤ k_)) ∧ (k_ ≠ z ∧ k_ ≠ d)) ∧ k_ ≠ a)) (n := m.length) (c := O) ?_).2.2; exact (by (with_reducible repeat apply pV); exact (Kd.V_mono (f6V a (Kd.V_mono y.out (fun k_ hk => (⟨hk, hk.2⟩ : _ ∧ k_ ≠ a))) (fun _ hk => hk.2)) (fun _ h_ => h_.1)))); (case side2 => exact (Kd.V_reads' y.out).2.1); rintro e cN ⟨rfl, hb⟩; refine ⟨_, rfl, ?_⟩; replace q := Z (Kd.V_below (by (with_reducible repeat apply pV); exact (Kd.V_mono (f6V a (Kd.V_mono q.out (fun k_ hk => (⟨hk, hk.2⟩ : _ ∧ k_ ≠ a))) (fun _ hk => hk.2)) (fun _ h_ => h_.1))) hb); replace y := Z (Kd.V_below (by (with_reducible repeat apply pV); exact (Kd.V_mono (f6V a (Kd.V_mono y.out (fun k_ hk => (⟨hk, hk.2⟩ : _ ∧ k_ ≠ a))) (fun _ hk => hk.2)) (fun _ h_ => h_.1))) hb); replace F := Z (Kd.V_below (by (with_reducible repeat apply pV); exact (Kd.V_mono (f6V a (Kd.V_mono F.out (fun k_ hk => (⟨hk, hk.2⟩ : _ ∧ k_ ≠ a))) (fun _ hk => hk.2)) (fun _ h_ => h_.1))) hb); replace b := Z (blk_below (g := z) (o := .cells #[.int .i64 X, .int .i64 Y, .slice ac K.length ae, .int .i64 G, .bool aa, .bool ab] 24 (0, 0)) (blk_off b.out M.out off2_) hb); replace j := Z (blk_below (g := d) (o := .cells #[.int .i64 0, .int .i64 0, .slice none 0 0, .int .i64 0, .bool false, .bool false] 24 (0, 0)) (blk_off j.out s.out off2_) hb); replace Q := Z (blk_below (g := a) (o := .cells #[.int .i64 i, .int .i64 l, .slice P m.length O, .int .i64 x, .bool r, .bool v] 24 (0, 0)) (put6 Q.out) hb); replace HB := bs_ hb; clear hb; obtain ⟨a5, a6, a7, a8, a9, ba, bM, bN, bO, bP, bQ, bR⟩ := cells6 Q.out; obtain ⟨bb, bc, bd, be, bf, bg, bS, bT, bU, bV, bW, bX⟩ := cells6 j.out))
  refine bodyPost_ret (results_ct rfl _ _ d 24 #[.int .i64 i, .int .i64 l, .slice P m.length O, .int .i64 ai, .bool r, .bool v] (0, 0) _ rfl (by (with_reducible repeat apply pK); refine blk_put (cs := #[.int .i64 i, .int .i64 l, .slice P m.length O, .int .i64 ai, .bool r, .bool false]) ?_ 5 _ rfl; (with_reducible repeat apply pK); refine blk_put (cs := #[.int .i64 i, .int .i64 l, .slice P m.length O, .int .i64 ai, .bool false, .bool false]) ?_ 4 _ rfl; (with_reducible repeat apply pK); refine blk_put (cs := #[.int .i64 i, .int .i64 l, .slice P m.length O, .int .i64 0, .bool false, .bool false]) ?_ 3 _ rfl; (with_reducible repeat apply pK); refine blk_put (cs := #[.int .i64 i, .int .i64 l, .slice none 0 0, .int .i64 0, .bool false, .bool false]) ?_ 2 _ rfl; (with_reducible repeat apply pK); refine blk_put (cs := #[.int .i64 i, .int .i64 0, .slice none 0 0, .int .i64 0, .bool false, .bool false]) ?_ 1 _ rfl; (with_reducible repeat apply pK); refine blk_put (cs := #[.int .i64 0, .int .i64 0, .slice none 0 0, .int .i64 0, .bool false, .bool false]) ?_ 0 _ rfl; (with_reducible repeat apply pK); refine blk_far ?_ s.out _; (with_reducible repeat apply pK); exact j.out) Tryd.underlying24 rfl (by kernel_rfl)) rfl ?_
  exact ⟨_, _, by first | rfl | (simp [errW_none, errW_some] <;> rfl) | (simp only [← ah]; first | rfl | (simp [errW_none, errW_some] <;> rfl)) | (simp [*, errW_none, errW_some] <;> rfl), by (with_reducible repeat apply pV); exact Kd.V_mono (f6V d (Kd.V_far (p := ⟨a, 3, none⟩) (Kd.V_mono (Kd.V_mono y.out (fun k_ hk => (⟨hk, hk.2⟩ : _ ∧ k_ ≠ a))) (fun k_ hk => (⟨hk, hk.1.1.2.2⟩ : _ ∧ k_ ≠ d))) (fun _ hk => hk.1.2) (.int .i64 ai)) (fun _ hk => hk.2)) (fun _ hk => hk.1.1.1.1), Kd.R_V (Kd.R_nil _ _ _ 0 _), bl_⟩
 ·have H1 : (some (i, l, m, x, r, v, some an, aj)) = some (r1, r2, r3, r4, r5, r6, r7, r8) := by rw [if_neg (show ¬ (some an).isNone = true by simp)] at H; exact H
  clear H
  have H := H1
  clear H1
  try simp only [errW_none, errW_some]
  simp only [Option.some.injEq, Prod.mk.injEq] at H
  obtain ⟨rfl, rfl, rfl, rfl, rfl, rfl, rfl, rfl⟩ := H
  go_enter Tryd.func87, Tryd.ntmps87
  go_wp2_with (first | ((with_reducible refine gate_dst (N := 1) rfl ?_); refine bx_ 1 24 #[.int .i64 X, .int .i64 Y, .slice ac K.length ae, .int .i64 G, .bool aa, .bool ab] ?_; intro z hg cO hbox hb; replace q := Z (ve q.out hg hb); have b := Z (hbox); have aF := Z (ln_ hg : w.heap.size ≤ z); have aC := aF; replace HB := bs_ hb; clear hb hbox hg) | ((with_reducible refine gate_dst (N := 2) rfl ?_); refine bx_ 2 24 #[.int .i64 0, .int .i64 0, .slice none 0 0, .int .i64 0, .bool false, .bool false] ?_; intro d hg cP hbox hb; replace q := Z (ve q.out hg hb); have j := Z (hbox); have aG := Z (ln_ hg : w.heap.size ≤ d); have aD := aG; replace HB := bs_ hb; have S := nl' b hg; have T := ng' b hg; replace b := kb' b hb; clear hb hbox hg; have cz := S.out; have cE := T.out; obtain ⟨bh, bi, bj, bk, bl, bm, bY, bZ, b0, b1, b2, b3⟩ := cells6 b.out) | ((with_reducible refine gate_callee (f := 31) rfl ?_); refine goesL_ (some 8) rfl rfl Tryd.func31 (by kernel_rfl) rfl #[.agg #[.int .i64 X, .int .i64 Y, .slice ac K.length ae, .int .i64 G, .bool aa, .bool ab], .int .u8 28] rfl ag_ ?_; (with_reducible refine (edit_Type.calls k X Y (fun k_ => (((J k_ ∨ w.heap.size ≤ k_) ∧ k_ ≠ z) ∧ k_ ≠ d)) _ _ K G aa ab 28 i l m x r v (some an) aj _ ?side1 A2.out).mono ?_); (case side1 => exact q.out); rintro e cQ ⟨aJ, aK, rfl, ap, aq, hb⟩; refine ⟨_, rfl, ?_⟩; replace q := vb' q hb; have y := Z (Kd.V_lower (Kd.V_mono (ok' := fun k_ => (J k_ ∨ w.heap.size ≤ k_) ∧ k_ ≠ z ∧ k_ ≠ d) ap (fun k_ hk_ => hk_.elim (fun hs_ => ⟨hs_.1.1, hs_.1.2, hs_.2⟩) (fun hn_ => ⟨(ir_ hn_), (fb b.out k_ hn_), (fb j.out k_ hn_)⟩))) (below_size bl_)); have F := Z (Kd.V_lower (Kd.V_mono (ok' := fun k_ => (J k_ ∨ w.heap.size ≤ k_) ∧ k_ ≠ z ∧ k_ ≠ d) aq (fun k_ hk_ => hk_.elim (fun hs_ => ⟨hs_.1.1, hs_.1.2, hs_.2⟩) (fun hn_ => ⟨(ir_ hn_), (fb b.out k_ hn_), (fb j.out k_ hn_)⟩))) (below_size bl_)); replace b := kb' b hb; replace j := kb' j hb; replace HB := bs_ hb; clear hb ap aq; (try simp only [errW_none, errW_some])) | ((with_reducible refine gate_dst (N := 4) rfl ?_); refine bx_ 4 24 #[.int .i64 0, .int .i64 0, .slice none 0 0, .int .i64 0, .bool false, .bool false] ?_; intro a hg cR hbox hb; replace q := Z (ve q.out hg hb); replace y := Z (ve y.out hg hb); replace F := Z (ve F.out hg hb); have Q := Z (hbox); have aH := Z (ln_ hg : w.heap.size ≤ a); have aE := aH; replace HB := bs_ hb; have M := nl' b hg; have U := ng' b hg; replace b := kb' b hb; have s := nl' j hg; have W := ng' j hg; replace j := kb' j hb; clear hb hbox hg; have cA := U.out; have cF := M.out; have cB := W.out; have cG := s.out; obtain ⟨bn, bo, bp, bq, br, bs, b4, b5, b6, b7, b8, b9⟩ := cells6 Q.out; obtain ⟨ad, af, aS⟩ := Kd.V_slice y.out; subst aS; obtain ⟨bt, bu, bv, bw, bx, bz, ca, cb, cc, cd, ce, cf⟩ := cells6 j.out))
  refine bodyPost_ret (results_ct rfl _ _ d 24 #[.int .i64 i, .int .i64 l, .slice ad m.length af, .int .i64 x, .bool r, .bool v] (0, 0) _ rfl (by (with_reducible repeat apply pK); refine blk_put (cs := #[.int .i64 i, .int .i64 l, .slice ad m.length af, .int .i64 x, .bool r, .bool false]) ?_ 5 _ rfl; (with_reducible repeat apply pK); refine blk_put (cs := #[.int .i64 i, .int .i64 l, .slice ad m.length af, .int .i64 x, .bool false, .bool false]) ?_ 4 _ rfl; (with_reducible repeat apply pK); refine blk_put (cs := #[.int .i64 i, .int .i64 l, .slice ad m.length af, .int .i64 0, .bool false, .bool false]) ?_ 3 _ rfl; (with_reducible repeat apply pK); refine blk_put (cs := #[.int .i64 i, .int .i64 l, .slice none 0 0, .int .i64 0, .bool false, .bool false]) ?_ 2 _ rfl; (with_reducible repeat apply pK); refine blk_put (cs := #[.int .i64 i, .int .i64 0, .slice none 0 0, .int .i64 0, .bool false, .bool false]) ?_ 1 _ rfl; (with_reducible repeat apply pK); refine blk_put (cs := #[.int .i64 0, .int .i64 0, .slice none 0 0, .int .i64 0, .bool false, .bool false]) ?_ 0 _ rfl; (with_reducible repeat apply pK); refine blk_far ?_ s.out _; (with_reducible repeat apply pK); refine blk_far ?_ s.out _; (with_reducible repeat apply pK); refine blk_far ?_ s.out _; (with_reducible repeat apply pK); refine blk_far ?_ s.out _; (with_reducible repeat apply pK); refine blk_far ?_ s.out _; (with_reducible repeat apply pK); refine blk_far ?_ s.out _; (with_reducible repeat apply pK); exact j.out) Tryd.underlying24 rfl (by kernel_rfl)) rfl ?_
  exact ⟨_, _, er_, by (with_reducible repeat apply pV); exact Kd.V_mono (f6V d (f6V a (Kd.V_mono (Kd.V_mono y.out (fun k_ hk => (⟨hk, hk.2⟩ : _ ∧ k_ ≠ a))) (fun k_ hk => (⟨hk, hk.1.1.2.2⟩ : _ ∧ k_ ≠ d))) (fun _ hk => hk.1.2)) (fun _ hk => hk.2)) (fun _ hk => hk.1.1.1.1), by (with_reducible repeat apply pV); exact Kd.V_mono (f6V d (f6V a (Kd.V_mono (Kd.V_mono F.out (fun k_ hk => (⟨hk, hk.2⟩ : _ ∧ k_ ≠ a))) (fun k_ hk => (⟨hk, hk.1.1.2.2⟩ : _ ∧ k_ ≠ d))) (fun _ hk => hk.1.2)) (fun _ hk => hk.2)) (fun _ hk => hk.1.1.1.1), bl_⟩
theorem move_Do.callsN (k : Nat) (v : Int) (x : Int) (T : Nat → Prop) (Q : Option Addr) (S : Nat) (i : List (S35)) (y : Int) (C : Bool) (z : Bool) (a1 : Int) (X : Int) (Y : Int) (r3 : List (S35)) (r4 : Int) (r5 : Bool) (r6 : Bool) (r8 : List (S164)) (w : World) (ah : Kd.V k35 35 w w.heap.size (fun k_ => T k_) (.slice Q i.length S) i) (h : move_Do.f k v x i y C z a1 = some (X, Y, r3, r4, r5, r6, (none : Option Er), r8)) :
  Calls Tryd.prog 86 #[.agg #[.int .i64 v, .int .i64 x, .slice Q i.length S, .int .i64 y, .bool C, .bool z], .int .i64 a1] w fun e w' => ∃ ag ao : Value, e = .returned (.tuple #[.agg #[.int .i64 X, .int .i64 Y, ag, .int .i64 r4, .bool r5, .bool r6], errW ao (none : Option Er)]) ∧ Kd.R k35 35 w' w.heap.size (fun k_ => (w.heap.size ≤ k_)) ag r3 ∧ Kd.V k164 164 w' w.heap.size (fun k_ => (T k_ ∨ w.heap.size ≤ k_) ∧ some k_ ≠ (ag : Value).ownBlock) ao r8 ∧ Below w.heap.size w w' := by
 have bq := Tryd.underlying24
 have br := Tryd.underlying28
 have bs := Tryd.underlying52
 have j := Z (show Kd.V k35 35 w w.heap.size (fun k_ => (T k_ ∨ w.heap.size ≤ k_)) (.slice Q i.length S) i from Kd.V_mono ah (fun k_ hk => .inl hk))
 have HB := Z (Below.refl w.heap.size w)
 have H : ((move_Moves.f a1).bind fun U => (if U = true then (if C = true then (some (v, x, i, y, C, z, some (Er.num 7), ([] : List (S164)))) else ((grid_Copy.f v x i y C z).bind fun a => ((move_to.f k a.1 a.2.1 a.2.2.1 a.2.2.2.1 a.2.2.2.2.1 a.2.2.2.2.2 a1).bind fun m => (some (a.1, a.2.1, a.2.2.1, m, a.2.2.2.2.1, a.2.2.2.2.2, none, ([] : List (S164))))))) else (some (v, x, i, y, C, z, some (Er.num 1), ([] : List (S164)))))) = some (X, Y, r3, r4, r5, r6, (none : Option Er), r8) := h
 clear h
 replace H := Option.bind_eq_some_iff.mp H
 obtain ⟨U, ai, H⟩ := H
 replace H : (if U = true then (if C = true then (some (v, x, i, y, C, z, some (Er.num 7), ([] : List (S164)))) else ((grid_Copy.f v x i y C z).bind fun a => ((move_to.f k a.1 a.2.1 a.2.2.1 a.2.2.2.1 a.2.2.2.2.1 a.2.2.2.2.2 a1).bind fun m => (some (a.1, a.2.1, a.2.2.1, m, a.2.2.2.2.1, a.2.2.2.2.2, none, ([] : List (S164))))))) else (some (v, x, i, y, C, z, some (Er.num 1), ([] : List (S164))))) = some (X, Y, r3, r4, r5, r6, (none : Option Er), r8) := H
 have A3 := Z ai
 clear ai
 by_cases c4 : U = true
 ·subst c4
  have H1 : (if C = true then (some (v, x, i, y, C, z, some (Er.num 7), ([] : List (S164)))) else ((grid_Copy.f v x i y C z).bind fun a => ((move_to.f k a.1 a.2.1 a.2.2.1 a.2.2.2.1 a.2.2.2.2.1 a.2.2.2.2.2 a1).bind fun m => (some (a.1, a.2.1, a.2.2.1, m, a.2.2.2.2.1, a.2.2.2.2.2, none, ([] : List (S164))))))) = some (X, Y, r3, r4, r5, r6, (none : Option Er), r8) := by rw [if_pos rfl] at H; exact H
  clear H
  have H := H1
  clear H1
  by_cases c5 : C = true
  ·subst c5
   have H1 : (some (v, x, i, y, true, z, some (Er.num 7), ([] : List (S164)))) = some (X, Y, r3, r4, r5, r6, (none : Option Er), r8) := by rw [if_pos rfl] at H; exact H
   clear H
   have H := H1
   clear H1
   exact absurd H (by simp)
  ·replace c5 := Bool.eq_false_iff.mpr c5
   subst c5
   have H1 : ((grid_Copy.f v x i y false z).bind fun a => ((move_to.f k a.1 a.2.1 a.2.2.1 a.2.2.2.1 a.2.2.2.2.1 a.2.2.2.2.2 a1).bind fun m => (some (a.1, a.2.1, a.2.2.1, m, a.2.2.2.2.1, a.2.2.2.2.2, none, ([] : List (S164)))))) = some (X, Y, r3, r4, r5, r6, (none : Option Er), r8) := by rw [if_neg (show ¬ (false = true) by decide)] at H; exact H
   clear H
   have H := H1
   clear H1
   replace H := Option.bind_eq_some_iff.mp H
   obtain ⟨⟨l, q, r, K, A, B⟩, aj, H⟩ := H
   replace H : ((move_to.f k l q r K A B a1).bind fun m => (some (l, q, r, m, A, B, none, ([] : List (S164))))) = some (X, Y, r3, r4, r5, r6, (none : Option Er), r8) := H
   have A6 := Z aj
   clear aj
   replace H := Option.bind_eq_some_iff.mp H
   obtain ⟨m, ak, H⟩ := H
   replace H : (some (l, q, r, m, A, B, none, ([] : List (S164)))) = some (X, Y, r3, r4, r5, r6, (none : Option Er), r8) := H
   have A7 := Z ak
   clear ak
   simp only [Option.some.injEq, Prod.mk.injEq] at H
   (first | obtain ⟨rfl, rfl, rfl, rfl, rfl, rfl, _, rfl⟩ := H | obtain ⟨rfl, rfl, rfl, rfl, rfl, rfl, rfl⟩ := H)
   go_enter Tryd.func86, Tryd.ntmps86
   go_wp2_with (first | ((with_reducible refine gate_dst (N := 2) rfl ?_); refine bx_ 2 24 #[.int .i64 v, .int .i64 x, .slice Q i.length S, .int .i64 y, .bool false, .bool z] ?_; intro b hg w8 hbox hb; replace j := Z (ve j.out hg hb); have d := Z (hbox); have bh := Z (ln_ hg : w.heap.size ≤ b); have bf := bh; replace HB := bs_ hb; clear hb hbox hg) | ((with_reducible refine gate_dst (N := 4) rfl ?_); refine bx_ 4 24 #[.int .i64 0, .int .i64 0, .slice none 0 0, .int .i64 0, .bool false, .bool false] ?_; intro u hg w9 hbox hb; replace j := Z (ve j.out hg hb); have s := Z (hbox); have bi := Z (ln_ hg : w.heap.size ≤ u); have bg := bi; replace HB := bs_ hb; have W := nl' d hg; have O := ng' d hg; replace d := kb' d hb; clear hb hbox hg) | ((with_reducible refine gate_callee (f := 85) rfl ?_); refine goesL_ (some 8) rfl rfl Tryd.func85 (by kernel_rfl) rfl #[.int .i64 a1] rfl ag_ ?_; (with_reducible refine (move_Moves.calls a1 true _ A3.out).mono ?_); rintro e w' ⟨rfl, ⟨nd, rfl⟩⟩; refine ⟨_, rfl, ?_⟩; (try (rw [drewN_self w9]; generalize hq_ : World.drewN w9 _ = w9; replace j := Z (qV hq_ j.out); replace d := Z (qM hq_ d.out); replace s := Z (qM hq_ s.out); replace HB := Z (qB hq_ HB.out); clear hq_)); have bk := W.out; have bl := O.out; obtain ⟨aq, ar, au, av, aw, ax, aQ, aR, aS, aT, aU, aV⟩ := cells6 d.out) | ((with_reducible refine gate_callee (f := 61) rfl ?_); refine goesL_ (some 18) rfl rfl Tryd.func61 (by kernel_rfl) rfl #[.agg #[.int .i64 v, .int .i64 x, .slice Q i.length S, .int .i64 y, .bool false, .bool z]] rfl ag_ ?_; (with_reducible refine (grid_Copy.calls v x _ _ i y false z l q r K A B _ ?side1 ?side2 A6.out).mono ?_); (case side1 => repeat (first | exact (Kd.V_reads' j.out).2.2 | (with_reducible apply pC))); (case side2 => exact (Kd.V_reads' j.out).2.1); rintro e bt ⟨bm, rfl, af, hb⟩; refine ⟨_, rfl, ?_⟩; replace j := Z (Kd.V_elder' (vV j.out) (Kd.R_base af) hb); have D := Z (Kd.R_lower (Kd.R_newM (M := fun k_ => (w.heap.size ≤ k_)) af (below_size bl_) (fun k_ h_ => h_)) (below_size bl_)); replace d := kb' d hb; replace s := kb' s hb; replace HB := bs_ hb; (try clear hb); (try clear bj); (try clear hk); (try clear hi); (try clear af); obtain ⟨ay, az, aA, aB, aC, aD, aW, aX, aY, aZ, a0, a2⟩ := cells6 d.out; obtain ⟨L, E, ap⟩ := Kd.R_slice D.out; subst ap) | ((with_reducible refine gate_callee (f := 98) rfl ?_); refine goesL_ (some 21) rfl rfl Tryd.func98 (by kernel_rfl) rfl #[.agg #[.int .i64 l, .int .i64 q, .slice L r.length E, .int .i64 K, .bool A, .bool B], .int .i64 a1] rfl ag_ ?_; (with_reducible refine (move_to.calls k l q _ _ r K A B a1 m _ ?side1 ?side2 A7.out).mono ?_); (case side1 => refine (Kd.R_reads' (e := 35) (base := w.heap.size) (ok := fun k_ => (((w.heap.size ≤ k_)) ∧ True)) (n := r.length) (c := E) ?_).2.2; exact (by (with_reducible repeat apply pR); exact (Kd.R_mono (f6R b (Kd.R_types D.out d.out (by decide)) (fun _ hk => hk.2)) (fun _ h_ => h_.1)))); (case side2 => exact (Kd.R_reads' D.out).2.1); rintro e bu ⟨rfl, hb⟩; refine ⟨_, rfl, ?_⟩; replace j := Z (Kd.V_below (by (with_reducible repeat apply pV); exact (Kd.V_mono (f6V b (Kd.V_mono j.out (fun k_ hk => (⟨hk, hk.1.1.2⟩ : _ ∧ k_ ≠ b))) (fun _ hk => hk.2)) (fun _ h_ => h_.1))) hb); replace D := Z (Kd.R_below (by (with_reducible repeat apply pR); exact (Kd.R_mono (f6R b (Kd.R_types D.out d.out (by decide)) (fun _ hk => hk.2)) (fun _ h_ => h_.1))) hb); replace d := Z (blk_below (g := b) (o := .cells #[.int .i64 l, .int .i64 q, .slice L r.length E, .int .i64 K, .bool A, .bool B] 24 (0, 0)) (put6 d.out) hb); replace s := Z (blk_below (g := u) (o := .cells #[.int .i64 0, .int .i64 0, .slice none 0 0, .int .i64 0, .bool false, .bool false] 24 (0, 0)) (blk_off s.out O.out off2_) hb); replace HB := bs_ hb; (try clear hb); (try clear bj); (try clear hk); (try clear hi); obtain ⟨aE, aF, aG, aH, aI, aJ, a3, a4, a5, a6, a7, a8⟩ := cells6 d.out; obtain ⟨aK, aL, aM, aN, aO, aP, a9, ba, bb, bc, bd, be⟩ := cells6 s.out))
   refine bodyPost_ret (results_ct rfl _ _ u 24 #[.int .i64 l, .int .i64 q, .slice L r.length E, .int .i64 m, .bool A, .bool B] (0, 0) _ rfl (by (with_reducible repeat apply pK); refine blk_put (cs := #[.int .i64 l, .int .i64 q, .slice L r.length E, .int .i64 m, .bool A, .bool false]) ?_ 5 _ rfl; (with_reducible repeat apply pK); refine blk_put (cs := #[.int .i64 l, .int .i64 q, .slice L r.length E, .int .i64 m, .bool false, .bool false]) ?_ 4 _ rfl; (with_reducible repeat apply pK); refine blk_put (cs := #[.int .i64 l, .int .i64 q, .slice L r.length E, .int .i64 0, .bool false, .bool false]) ?_ 3 _ rfl; (with_reducible repeat apply pK); refine blk_put (cs := #[.int .i64 l, .int .i64 q, .slice none 0 0, .int .i64 0, .bool false, .bool false]) ?_ 2 _ rfl; (with_reducible repeat apply pK); refine blk_put (cs := #[.int .i64 l, .int .i64 0, .slice none 0 0, .int .i64 0, .bool false, .bool false]) ?_ 1 _ rfl; (with_reducible repeat apply pK); refine blk_put (cs := #[.int .i64 0, .int .i64 0, .slice none 0 0, .int .i64 0, .bool false, .bool false]) ?_ 0 _ rfl; (with_reducible repeat apply pK); refine blk_far ?_ O.out _; (with_reducible repeat apply pK); exact s.out) Tryd.underlying24 rfl (by kernel_rfl)) rfl ?_
   exact ⟨_, _, er_, by (with_reducible repeat apply pR); exact Kd.R_mono (f6R u (Kd.R_far (p := ⟨b, 3, none⟩) (Kd.R_types (Kd.R_types D.out d.out (by decide)) s.out (by decide)) (fun _ hk => hk.1.2) (.int .i64 m)) (fun _ hk => hk.2)) (fun _ hk => hk.1.1.1), Kd.R_V (Kd.R_nil _ _ _ 0 _), bl_⟩
 ·replace c4 := Bool.eq_false_iff.mpr c4
  subst c4
  have H1 : (some (v, x, i, y, C, z, some (Er.num 1), ([] : List (S164)))) = some (X, Y, r3, r4, r5, r6, (none : Option Er), r8) := by rw [if_neg (show ¬ (false = true) by decide)] at H; exact H
  clear H
  have H := H1
  clear H1
  exact absurd H (by simp)
theorem keys_dup.callsN (k : Nat) (S : Int) (T : Int) (Y : Nat → Prop) (ab : Option Addr) (ac : Nat) (D : List (S35)) (A : Int) (U : Bool) (W : Bool) (r1 : Int) (r2 : Int) (r3 : List (S35)) (r4 : Int) (r5 : Bool) (r6 : Bool) (r8 : List (S164)) (w : World) (az : Kd.V k35 35 w w.heap.size (fun k_ => Y k_) (.slice ab D.length ac) D) (h : keys_dup.f k S T D A U W = some (r1, r2, r3, r4, r5, r6, (none : Option Er), r8)) :
  Calls Tryd.prog 87 #[.agg #[.int .i64 S, .int .i64 T, .slice ab D.length ac, .int .i64 A, .bool U, .bool W]] w fun e w' => ∃ ay aG : Value, e = .returned (.tuple #[.agg #[.int .i64 r1, .int .i64 r2, ay, .int .i64 r4, .bool r5, .bool r6], errW aG (none : Option Er)]) ∧ Kd.R k35 35 w' w.heap.size (fun k_ => (w.heap.size ≤ k_)) ay r3 ∧ Kd.V k164 164 w' w.heap.size (fun k_ => (Y k_ ∨ w.heap.size ≤ k_) ∧ some k_ ≠ (ay : Value).ownBlock) aG r8 ∧ Below w.heap.size w w' := by
 have b0 := Tryd.underlying24
 have b1 := Tryd.underlying28
 have b2 := Tryd.underlying52
 have s := Z (show Kd.V k35 35 w w.heap.size (fun k_ => (Y k_ ∨ w.heap.size ≤ k_)) (.slice ab D.length ac) D from Kd.V_mono az (fun k_ hk => .inl hk))
 have HB := Z (Below.refl w.heap.size w)
 have H : ((edit_Type.f k S T D A U W 28).bind fun b => (if b.2.2.2.2.2.2.1.isNone = true then ((field_Next.f b.1 b.2.1 b.2.2.1 b.2.2.2.1 b.2.2.2.2.1 b.2.2.2.2.2.1 A).bind fun y => (some (b.1, b.2.1, b.2.2.1, mx 0 y, b.2.2.2.2.1, b.2.2.2.2.2.1, none, ([] : List (S164))))) else (some (b.1, b.2.1, b.2.2.1, b.2.2.2.1, b.2.2.2.2.1, b.2.2.2.2.2.1, some (b.2.2.2.2.2.2.1.getD ez), b.2.2.2.2.2.2.2)))) = some (r1, r2, r3, r4, r5, r6, (none : Option Er), r8) := h
 clear h
 replace H := Option.bind_eq_some_iff.mp H
 obtain ⟨⟨i, j, l, x, m, r, ai, aj⟩, aB, H⟩ := H
 replace H : (if ai.isNone = true then ((field_Next.f i j l x m r A).bind fun y => (some (i, j, l, mx 0 y, m, r, none, ([] : List (S164))))) else (some (i, j, l, x, m, r, some (ai.getD ez), aj))) = some (r1, r2, r3, r4, r5, r6, (none : Option Er), r8) := H
 have A2 := Z aB
 clear aB
 rcases ai with _ | ar
 ·have H1 : ((field_Next.f i j l x m r A).bind fun y => (some (i, j, l, mx 0 y, m, r, none, ([] : List (S164))))) = some (r1, r2, r3, r4, r5, r6, (none : Option Er), r8) := by rw [if_pos (show (none : Option Er).isNone = true by rfl)] at H; exact H
  clear H
  have H := H1
  clear H1
  try simp only [errW_none, errW_some]
  replace H := Option.bind_eq_some_iff.mp H
  obtain ⟨y, aC, H⟩ := H
  replace H : (some (i, j, l, mx 0 y, m, r, none, ([] : List (S164)))) = some (r1, r2, r3, r4, r5, r6, (none : Option Er), r8) := H
  have A3 := Z aC
  clear aC
  obtain ⟨aa, X⟩ : ∃ j_ : Int, (mx 0 y) = j_ := ⟨_, rfl⟩
  replace H : (some (i, j, l, aa, m, r, none, ([] : List (S164)))) = some (r1, r2, r3, r4, r5, r6, (none : Option Er), r8) := by first | (rw [X] at H; exact H) | (simp only [X] at H ⊢; exact H)
  (try rw [X] at A2)
  (try rw [X] at A3)
  (try (have bR : 0 ≤ aa := by (rw [← X]; unfold mx; (repeat' split) <;> omega)))
  (try (have bS : 0 ≤ aa := by omega))
  have bQ : (if 0 < y then y else 0) = aa := X
  simp only [Option.some.injEq, Prod.mk.injEq] at H
  (first | obtain ⟨rfl, rfl, rfl, rfl, rfl, rfl, _, rfl⟩ := H | obtain ⟨rfl, rfl, rfl, rfl, rfl, rfl, rfl⟩ := H)
  go_enter Tryd.func87, Tryd.ntmps87
  go_wp2_with (first | ((with_reducible refine gate_dst (N := 1) rfl ?_); refine bx_ 1 24 #[.int .i64 S, .int .i64 T, .slice ab D.length ac, .int .i64 A, .bool U, .bool W] ?_; intro O hg w5 hbox hb; replace s := Z (ve s.out hg hb); have d := Z (hbox); have bA := Z (ln_ hg : w.heap.size ≤ O); have bw := bA; replace HB := bs_ hb; clear hb hbox hg) | ((with_reducible refine gate_dst (N := 2) rfl ?_); refine bx_ 2 24 #[.int .i64 0, .int .i64 0, .slice none 0 0, .int .i64 0, .bool false, .bool false] ?_; intro u hg w6 hbox hb; replace s := Z (ve s.out hg hb); have q := Z (hbox); have bB := Z (ln_ hg : w.heap.size ≤ u); have bx := bB; replace HB := bs_ hb; have ae := nl' d hg; have af := ng' d hg; replace d := kb' d hb; clear hb hbox hg; have bY := ae.out; have bZ := af.out; obtain ⟨bE, bF, bG, bH, bI, bJ, bK, bL, bM, bN, bO, bP⟩ := cells6 d.out) | ((with_reducible refine gate_callee (f := 31) rfl ?_); refine goesL_ (some 8) rfl rfl Tryd.func31 (by kernel_rfl) rfl #[.agg #[.int .i64 S, .int .i64 T, .slice ab D.length ac, .int .i64 A, .bool U, .bool W], .int .u8 28] rfl ag_ ?_; (with_reducible refine (edit_Type.callsN k S T (fun k_ => (((Y k_ ∨ w.heap.size ≤ k_) ∧ k_ ≠ O) ∧ k_ ≠ u)) _ _ D A U W 28 i j l x m r aj _ ?side1 A2.out).mono ?_); (case side1 => exact s.out); rintro e w9 ⟨aA, bX, rfl, au, aD, hb⟩; refine ⟨_, rfl, ?_⟩; replace s := Z (Kd.V_elder' (vV s.out) (Kd.R_base au) hb); have v := Z (Kd.R_lower (Kd.R_newM (M := fun k_ => (w.heap.size ≤ k_)) (Kd.R_mono (ok' := fun k_ => True) au (fun _ hk_ => trivial)) (below_size bl_) (fun k_ h_ => h_)) (below_size bl_)); have L := Z (Kd.V_lower (Kd.V_mono (ok' := fun k_ => (Y k_ ∨ w.heap.size ≤ k_) ∧ some k_ ≠ (aA : Value).ownBlock ∧ k_ ≠ O ∧ k_ ≠ u) aD (fun k_ hk_ => ⟨Or.elim hk_.1 (fun hs_ => hs_.1.1) (fun hn_ => (ir_ hn_)), hk_.2, Or.elim hk_.1 (fun hs_ => hs_.1.2) (fun hn_ => (fb d.out k_ hn_)), Or.elim hk_.1 (fun hs_ => hs_.2) (fun hn_ => (fb q.out k_ hn_))⟩)) (below_size bl_)); replace d := kb' d hb; replace q := kb' q hb; replace HB := bs_ hb; (try clear hb); (try clear bD); (try clear hk); (try clear hi); (try clear au); (try clear aD); (try simp only [errW_none, errW_some])) | ((with_reducible refine gate_dst (N := 4) rfl ?_); refine bx_ 4 24 #[.int .i64 0, .int .i64 0, .slice none 0 0, .int .i64 0, .bool false, .bool false] ?_; intro a hg b3 hbox hb; replace s := Z (ve s.out hg hb); replace v := rb' v hb; replace L := Z (ve L.out hg hb); have z := Z (hbox); have bC := Z (ln_ hg : w.heap.size ≤ a); have bz := bC; replace HB := bs_ hb; have Q := nl' d hg; have ag := ng' d hg; replace d := kb' d hb; have K := nl' q hg; have ah := ng' q hg; replace q := kb' q hb; clear hb hbox hg; have bT := ag.out; have bV := Q.out; have bU := ah.out; have bW := K.out; obtain ⟨aI, aJ, aK, aL, aM, aN, a6, a7, a8, a9, ba, bb⟩ := cells6 z.out; obtain ⟨C, B, aH⟩ := Kd.R_slice v.out; subst aH; obtain ⟨aO, aP, aQ, aR, aS, aT, bc, bd, be, bf, bg, bh⟩ := cells6 d.out) | ((with_reducible refine gate_callee (f := 67) rfl ?_); refine goesL_ (some 18) rfl rfl Tryd.func67 (by kernel_rfl) rfl #[.agg #[.int .i64 i, .int .i64 j, .slice C l.length B, .int .i64 x, .bool m, .bool r], .int .i64 A] rfl ag_ ?_; (with_reducible refine (field_Next.calls i j _ _ l x m r A y _ ?side1 ?side2 A3.out).mono ?_); (case side1 => refine (Kd.R_reads' (e := 35) (base := w.heap.size) (ok := fun k_ => (((w.heap.size ≤ k_)) ∧ True)) (n := l.length) (c := B) ?_).2.2; exact (by (with_reducible repeat apply pR); exact (Kd.R_mono (f6R a (Kd.R_types v.out z.out (by decide)) (fun _ hk => hk.2)) (fun _ h_ => h_.1)))); (case side2 => exact (Kd.R_reads' v.out).2.1); rintro e b4 ⟨rfl, hb⟩; refine ⟨_, rfl, ?_⟩; replace s := Z (Kd.V_below (by (with_reducible repeat apply pV); exact (Kd.V_mono (f6V a (Kd.V_mono s.out (fun k_ hk => (⟨hk, hk.2⟩ : _ ∧ k_ ≠ a))) (fun _ hk => hk.2)) (fun _ h_ => h_.1))) hb); replace v := Z (Kd.R_below (by (with_reducible repeat apply pR); exact (Kd.R_mono (f6R a (Kd.R_types v.out z.out (by decide)) (fun _ hk => hk.2)) (fun _ h_ => h_.1))) hb); replace L := Z (Kd.V_below (by (with_reducible repeat apply pV); exact (Kd.V_mono (f6V a (Kd.V_mono L.out (fun k_ hk => (⟨hk, hk.2⟩ : _ ∧ k_ ≠ a))) (fun _ hk => hk.2)) (fun _ h_ => h_.1))) hb); replace d := Z (blk_below (g := O) (o := .cells #[.int .i64 S, .int .i64 T, .slice ab D.length ac, .int .i64 A, .bool U, .bool W] 24 (0, 0)) (blk_off d.out Q.out off2_) hb); replace q := Z (blk_below (g := u) (o := .cells #[.int .i64 0, .int .i64 0, .slice none 0 0, .int .i64 0, .bool false, .bool false] 24 (0, 0)) (blk_off q.out K.out off2_) hb); replace z := Z (blk_below (g := a) (o := .cells #[.int .i64 i, .int .i64 j, .slice C l.length B, .int .i64 x, .bool m, .bool r] 24 (0, 0)) (put6 z.out) hb); replace HB := bs_ hb; (try clear hb); (try clear bD); (try clear hk); (try clear hi); obtain ⟨aU, aV, aW, aX, aY, aZ, bi, bj, bk, bl, bm, bn⟩ := cells6 z.out; obtain ⟨a0, a1, a2, a3, a4, a5, bo, bp, bq, br, bs, bt⟩ := cells6 q.out))
  refine bodyPost_ret (results_ct rfl _ _ u 24 #[.int .i64 i, .int .i64 j, .slice C l.length B, .int .i64 aa, .bool m, .bool r] (0, 0) _ rfl (by (with_reducible repeat apply pK); refine blk_put (cs := #[.int .i64 i, .int .i64 j, .slice C l.length B, .int .i64 aa, .bool m, .bool false]) ?_ 5 _ rfl; (with_reducible repeat apply pK); refine blk_put (cs := #[.int .i64 i, .int .i64 j, .slice C l.length B, .int .i64 aa, .bool false, .bool false]) ?_ 4 _ rfl; (with_reducible repeat apply pK); refine blk_put (cs := #[.int .i64 i, .int .i64 j, .slice C l.length B, .int .i64 0, .bool false, .bool false]) ?_ 3 _ rfl; (with_reducible repeat apply pK); refine blk_put (cs := #[.int .i64 i, .int .i64 j, .slice none 0 0, .int .i64 0, .bool false, .bool false]) ?_ 2 _ rfl; (with_reducible repeat apply pK); refine blk_put (cs := #[.int .i64 i, .int .i64 0, .slice none 0 0, .int .i64 0, .bool false, .bool false]) ?_ 1 _ rfl; (with_reducible repeat apply pK); refine blk_put (cs := #[.int .i64 0, .int .i64 0, .slice none 0 0, .int .i64 0, .bool false, .bool false]) ?_ 0 _ rfl; (with_reducible repeat apply pK); refine blk_far ?_ K.out _; (with_reducible repeat apply pK); exact q.out) Tryd.underlying24 rfl (by kernel_rfl)) rfl ?_
  exact ⟨_, _, by first | rfl | (simp [errW_none, errW_some] <;> rfl) | (simp only [← X]; first | rfl | (simp [errW_none, errW_some] <;> rfl)) | (simp [*, errW_none, errW_some] <;> rfl), by (with_reducible repeat apply pR); exact Kd.R_mono (f6R u (Kd.R_far (p := ⟨a, 3, none⟩) (Kd.R_types (Kd.R_types v.out z.out (by decide)) q.out (by decide)) (fun _ hk => hk.1.2) (.int .i64 aa)) (fun _ hk => hk.2)) (fun _ hk => hk.1.1.1), Kd.R_V (Kd.R_nil _ _ _ 0 _), bl_⟩
 ·have H1 : (some (i, j, l, x, m, r, some ar, aj)) = some (r1, r2, r3, r4, r5, r6, (none : Option Er), r8) := by rw [if_neg (show ¬ (some ar).isNone = true by simp)] at H; exact H
  clear H
  have H := H1
  clear H1
  try simp only [errW_none, errW_some]
  exact absurd H (by simp)
end Go.Proofs.YtggecanpjkpkiaaDoor.P
