/- pp.py and press2.py (wip/tools) wrote this text. -/
import Derived.Test.YtggecanpjkpkiaaDoorPx0
import Derived.Test.YtggecanpjkpkiaaDoorPxS
import Derived.Test.YtggecanpjkpkiaaDoorPx4
import Derived.Test.YtggecanpjkpkiaaDoorPx5
import Derived.Test.YtggecanpjkpkiaaDoorPx6
import Derived.Test.YtggecanpjkpkiaaDoorPx7
import Derived.Test.YtggecanpjkpkiaaDoorPx9
import Derived.Test.YtggecanpjkpkiaaDoorPx31
namespace Go.Proofs.YtggecanpjkpkiaaDoor.P
open Go.RowKit Go.Proofs.YtggecanpjkpkiaaDoorW.PrintWords Go.Proofs.YtggecanpjkpkiaaDoorW.PrintLast Go.Proofs.YtggecanpjkpkiaaDoorW.PrintMore
attribute [local go_sem] max2_int min2_int max_two min_two max_three min_three max_four min_four
attribute [local go_sem] Instr.field asAgg
set_option linter.unusedVariables false
set_option linter.unusedSimpArgs false

/-! ### move_line: function 102 -/
def move_line.l0 : Nat → List Int → Int → Int → Int → Int → List (S35) → Int → Bool → Bool → Option (Int)
 | 0, _, _, _, _, _, _, _, _, _ => none
 | k + 1, i, l, h, a, b, c, d, e, g => if h < l then (if 0 ≤ h then (if h < (i.length : Int) then ((field_Open.f a b c d e g (rd i h)).bind fun j => (if j = true then (some (rd i h)) else (move_line.l0 k i l (wrap64 (h + 1)) a b c d e g))) else (none)) else (none)) else (some 0)
def move_line.f (k : Nat) (c : Int) (a : Int) (g : List (S35)) (b : Int) (d : Bool) (e : Bool) : Option (Int) := if a = 0 then (none) else ((grid_On.f c a g b d e (wrap64 (b - (Int.tmod b a))) a).bind fun h => ((grid_Span.f k c a g b d e h h).bind fun i => (move_line.l0 k i (i.length : Int) 0 c a g b d e)))
theorem move_line.mono_l : ∀ k, (∀ b c d e f g i j l, LeO (move_line.l0 k b c d e f g i j l) (move_line.l0 (k + 1) b c d e f g i j l))
 | 0 => fun _ _ _ _ _ _ _ _ _ r h => by simp [move_line.l0] at h
 | k + 1 => by
  have a := move_line.mono_l k
  ·intro b c d e f g i j l
   unfold move_line.l0
   repeat' first
   | (with_reducible exact a _ _ _ _ _ _ _ _ _)
   | (with_reducible exact grid_Span.mono _ _ _ _ _ _ _ _ _)
   | (with_reducible exact LeO.refl _)
   | (with_reducible exact LeO.none _)
   | (with_reducible refine LeO.ite ?_ ?_)
   | (with_reducible refine LeO.bind ?_ (fun _ => ?_))
   | exact a _ _ _ _ _ _ _ _ _
   | exact grid_Span.mono _ _ _ _ _ _ _ _ _
   | exact LeO.none _
   | refine LeO.ite ?_ ?_
   | refine LeO.bind ?_ (fun _ => ?_)
theorem move_line.mono : ∀ a0 a1 b c a4 d k, LeO (move_line.f k a0 a1 b c a4 d) (move_line.f (k + 1) a0 a1 b c a4 d) := by
 intro a0 a1 b c a4 d k
 have a := move_line.mono_l k
 unfold move_line.f
 repeat' first
   | (with_reducible exact a _ _ _ _ _ _ _ _ _)
   | (with_reducible exact grid_Span.mono _ _ _ _ _ _ _ _ _)
   | (with_reducible exact LeO.refl _)
   | (with_reducible exact LeO.none _)
   | (with_reducible refine LeO.ite ?_ ?_)
   | (with_reducible refine LeO.bind ?_ (fun _ => ?_))
   | exact a _ _ _ _ _ _ _ _ _
   | exact grid_Span.mono _ _ _ _ _ _ _ _ _
   | exact LeO.none _
   | refine LeO.ite ?_ ?_
   | refine LeO.bind ?_ (fun _ => ?_)
def move_line.T1 : Bool × List (List Nat × List Nat) := (true, [([], []), ([], []), ([1], [1]), ([], []), ([3], [3]), ([], []), ([5], [5]), ([4, 6], [4, 6]), ([2, 7], [2, 7]), ([], []), ([9], [9]), ([0, 8, 10], [0, 8, 10]), ([11, 11, 0, 1, 2, 3, 4, 5, 6, 7, 8, 9, 10, 11], [11])])
def move_line.B1 : List Nat := [0, 0, 2, 0, 8, 0, 32, 120, 254, 0, 512, 2047, 4095]
theorem move_line.tab1 : rtab .any (opsOf Tryd.f102 1) = move_line.T1 := by kernel_rfl
theorem move_line.bits1 : waitsOk move_line.T1.2 move_line.B1 = true := by kernel_rfl
set_option maxHeartbeats 8000000 in
set_option maxRecDepth 100000 in
theorem move_line.calls (k : Nat) (l : Int) (c : Int) (x : Option Addr) (y : Nat) (j : List (S35)) (g : Int) (m : Bool) (o : Bool) (r : Int) (w : World) (Q : Kd.C k35 w x j.length j) (P : j.length ≤ y) (h : move_line.f k l c j g m o = some r) :
  Calls Tryd.prog 102 #[.agg #[.int .i64 l, .int .i64 c, .slice x j.length y, .int .i64 g, .bool m, .bool o]] w fun e w' => e = .returned (.int .i64 r) ∧ Below w.heap.size w w' := by
 have ba := Tryd.underlying24
 have E := Z Q
 have D := Z P
 clear Q P
 have HB := Z (Below.refl w.heap.size w)
 have H : (if c = 0 then (none) else ((grid_On.f l c j g m o (wrap64 (g - (Int.tmod g c))) c).bind fun q => ((grid_Span.f k l c j g m o q q).bind fun b => (move_line.l0 k b (b.length : Int) 0 l c j g m o)))) = some r := h
 clear h
 by_cases c2 : c = 0
 ·rw [if_pos c2] at H
  exact absurd H (by simp)
 ·rw [if_neg c2] at H
  have aA : (c == 0) = false := beq_eq_false_iff_ne.mpr c2
  have aB : (c != 0) = true := bne_iff_ne.mpr c2
  replace H := Option.bind_eq_some_iff.mp H
  obtain ⟨q, au, H⟩ := H
  replace H : ((grid_Span.f k l c j g m o q q).bind fun b => (move_line.l0 k b (b.length : Int) 0 l c j g m o)) = some r := H
  have A3 := Z au
  clear au
  replace H := Option.bind_eq_some_iff.mp H
  obtain ⟨b, av, H⟩ := H
  replace H : (move_line.l0 k b (b.length : Int) 0 l c j g m o) = some r := H
  have A4 := Z av
  clear av
  have H' := Z H
  clear H
  go_enter Tryd.func102, Tryd.ntmps102
  try go_wp2_with (first | ((with_reducible refine gate_dst (N := 1) rfl ?_); refine bx_ 1 24 #[.int .i64 l, .int .i64 c, .slice x j.length y, .int .i64 g, .bool m, .bool o] ?_; intro p hg w5 hbox hb; have a := Z (hbox); have a3 := Z (ln_ hg : w.heap.size ≤ p); have a2 := Z (ln_ hg : w.heap.size ≤ p); replace HB := Z (below_step bl_ hb); clear hb hbox hg))
  have s := Z (blk_drew a.out)
  have u := Z (below_drew1 HB.out)
  clear a
  clear HB
  have a := s
  have HB := u
  clear s u
  refine start_ (n := 13) (S := fun w' => w'.cell? ⟨p, 0, none⟩ = some (.int .i64 l) ∧ w'.cell? ⟨p, 1, none⟩ = some (.int .i64 c) ∧ w'.cell? ⟨p, 2, none⟩ = some (.slice x j.length y) ∧ w'.cell? ⟨p, 3, none⟩ = some (.int .i64 g) ∧ w'.cell? ⟨p, 4, none⟩ = some (.bool m) ∧ w'.cell? ⟨p, 5, none⟩ = some (.bool o)) (ds := []) (bv 13 0) (by kernel_rfl) rfl rfl ⟨(blk_cell a.out 0).trans rfl, (blk_cell a.out 1).trans rfl, (blk_cell a.out 2).trans rfl, (blk_cell a.out 3).trans rfl, (blk_cell a.out 4).trans rfl, (blk_cell a.out 5).trans rfl⟩ (fun hHeld => ?_); refine with_tabW move_line.tab1 move_line.bits1 (fun HT_ HW_ => ?_)
  generalize w5.drew = w6 at a HB hHeld ⊢
  refine pure_ (i := 1) (N := some 7) (v := ?_) (a' := ?_) (bv 13 2) rfl rfl (any_of HT_.out (by kernel_rfl)) (fun _ _ _ h => h) (Or.inl ⟨by rfl, ?_⟩) ?_ ?_
  rotate_left
  ·intro w'
   go_simp
   with_reducible rfl
  rotate_left
  ·simp only [Act.put, sA, sB, sC, i64_w, i32_w]
   rfl
  refine pure_ (i := 3) (N := some 9) (v := ?_) (a' := ?_) (bv 13 10) rfl rfl (any_of HT_.out (by kernel_rfl)) (fun _ _ _ h => h) (Or.inl ⟨by rfl, ?_⟩) ?_ ?_
  rotate_left
  ·intro w'
   go_simp
   with_reducible rfl
  rotate_left
  ·simp only [Act.put, sA, sB, sC, i64_w, i32_w]
   rfl
  refine pure_ (i := 5) (N := some 11) (v := ?_) (a' := ?_) (bv 13 42) rfl rfl (any_of HT_.out (by kernel_rfl)) (fun _ _ _ h => h) (Or.inl ⟨by rfl, ?_⟩) ?_ ?_
  rotate_left
  ·intro w'
   go_simp
   with_reducible rfl
  rotate_left
  ·simp only [Act.put, sA, sB, sC, i64_w, i32_w]
   rfl
  refine pure_ (i := 9) (N := some 15) (v := ?_) (a' := ?_) (bv 13 554) rfl rfl (any_of HT_.out (by kernel_rfl)) (fun _ _ _ h => h) (Or.inl ⟨by rfl, ?_⟩) ?_ ?_
  rotate_left
  ·intro w'
   go_simp
   with_reducible rfl
  rotate_left
  ·simp only [Act.put, sA, sB, sC, i64_w, i32_w]
   rfl
  refine take_ (i := 0) (N := some 6) (v := ?_) (a' := ?_) (bv 13 555) rfl rfl (take_ofW HT_.out HW_.out (by kernel_rfl)) (fun _ _ _ h => h) (Or.inl ⟨by rfl, ?_⟩) hHeld ?_ ?_
  rotate_left
  ·rintro w' ⟨s0, s1, s2, s3, s4, s5⟩
   go_simp
   with_reducible rfl
  rotate_left
  ·simp only [Act.put, sA, sB, sC, i64_w, i32_w]
   rfl
  refine take_ (i := 2) (N := some 8) (v := ?_) (a' := ?_) (bv 13 559) rfl rfl (take_ofW HT_.out HW_.out (by kernel_rfl)) (fun _ _ _ h => h) (Or.inl ⟨by rfl, ?_⟩) hHeld ?_ ?_
  rotate_left
  ·rintro w' ⟨s0, s1, s2, s3, s4, s5⟩
   go_simp
   with_reducible rfl
  rotate_left
  ·simp only [Act.put, sA, sB, sC, i64_w, i32_w]
   rfl
  refine take_ (i := 4) (N := some 10) (v := ?_) (a' := ?_) (bv 13 575) rfl rfl (take_ofW HT_.out HW_.out (by kernel_rfl)) (fun _ _ _ h => h) (Or.inl ⟨by rfl, ?_⟩) hHeld ?_ ?_
  rotate_left
  ·rintro w' ⟨s0, s1, s2, s3, s4, s5⟩
   go_simp
   with_reducible rfl
  rotate_left
  ·simp only [Act.put, sA, sB, sC, i64_w, i32_w]
   rfl
  refine take_ (i := 6) (N := some 12) (v := ?_) (a' := ?_) (bv 13 639) rfl rfl (take_ofW HT_.out HW_.out (by kernel_rfl)) (fun _ _ _ h => h) (Or.inl ⟨by rfl, ?_⟩) hHeld ?_ ?_
  rotate_left
  ·rintro w' ⟨s0, s1, s2, s3, s4, s5⟩
   go_simp
   with_reducible rfl
  rotate_left
  ·simp only [Act.put, sA, sB, sC, i64_w, i32_w]
   rfl
  refine pure_ (i := 7) (N := some 13) (v := ?_) (a' := ?_) (bv 13 767) rfl rfl (any_of HT_.out (by kernel_rfl)) (fun _ _ _ h => h) (Or.inl ⟨by rfl, ?_⟩) ?_ ?_
  rotate_left
  ·intro w'
   go_simp
   with_reducible rfl
  rotate_left
  ·simp only [Act.put, sA, sB, sC, i64_w, i32_w]
   rfl
  refine pure_ (i := 8) (N := some 14) (v := ?_) (a' := ?_) (bv 13 1023) rfl rfl (any_of HT_.out (by kernel_rfl)) (fun _ _ _ h => h) (Or.inl ⟨by rfl, ?_⟩) ?_ ?_
  rotate_left
  ·intro w'
   go_simp
   with_reducible rfl
  rotate_left
  ·simp only [Act.put, sA, sB, sC, i64_w, i32_w]
   rfl
  refine take_ (i := 10) (N := some 16) (v := ?_) (a' := ?_) (bv 13 2047) rfl rfl (take_ofW HT_.out HW_.out (by kernel_rfl)) (fun _ _ _ h => h) (Or.inl ⟨by rfl, ?_⟩) hHeld ?_ ?_
  rotate_left
  ·rintro w' ⟨s0, s1, s2, s3, s4, s5⟩
   go_simp
   with_reducible rfl
  rotate_left
  ·simp only [Act.put, sA, sB, sC, i64_w, i32_w]
   rfl
  refine one_ (i := 11) (N := some 17) (bv 13 4095) rfl rfl (one_of HT_.out (by kernel_rfl)) (by decide) (fun K hK => ?_)
  refine goes_ Tryd.func80 (by kernel_rfl) rfl #[.agg #[.int .i64 l, .int .i64 c, .slice x j.length y, .int .i64 g, .bool m, .bool o], .int .i64 (wrap64 (g - (Int.tmod g c))), .int .i64 c] (by rfl) rfl rfl ag_ ?_
  with_reducible refine (grid_On.calls l c _ _ j g m o (wrap64 (g - (Int.tmod g c))) c q _ ?side1 ?side2 A3.out).mono ?_
  (case side1 => repeat (first | exact (Kd.C_below E.out HB.out) | (with_reducible apply pC)))
  (case side2 => exact D.out)
  rintro e w7 ⟨rfl, hb⟩
  refine ⟨_, rfl, ?_⟩
  have s := Z (kb a.out hb)
  have u := Z (below_step bl_ hb)
  clear a
  clear HB
  have a := s
  have HB := u
  clear s u
  (try clear hb)
  (try clear W)
  (try clear hk)
  (try clear hi)
  refine hK.out _ _ ⟨(blk_cell a.out 0).trans rfl, (blk_cell a.out 1).trans rfl, (blk_cell a.out 2).trans rfl, (blk_cell a.out 3).trans rfl, (blk_cell a.out 4).trans rfl, (blk_cell a.out 5).trans rfl⟩ (fun hHeld => ?_)
  clear hK K
  refine norm_ (a' := ?_) ?_ ?_
  rotate_left
  ·show Act.put _ (some 17) _ = _
   simp only [Act.put, sA, sB, sC, i64_w, i32_w]
   rfl
  refine pure_ (i := 12) (N := some 3) (v := ?_) (a' := ?_) (bv 13 8191) rfl rfl (any_of HT_.out (by kernel_rfl)) (fun _ _ _ h => h) (Or.inl ⟨by rfl, ?_⟩) ?_ ?_
  rotate_left
  ·intro w'
   go_simp
   with_reducible rfl
  rotate_left
  ·simp only [Act.put, sA, sB, sC, i64_w, i32_w]
   rfl
  refine done_ (done_of HT_.out (by kernel_rfl)) ?_
  obtain ⟨X, Y, aa, ab, ac, ad, ae, af, ag, ah, ai, aj⟩ := cells6 a.out
  try go_wp2_with (first | ((with_reducible refine gate_callee (f := 103) rfl ?_); refine goesL_ (some 21) rfl rfl Tryd.func103 (by kernel_rfl) rfl #[.agg #[.int .i64 l, .int .i64 c, .slice x j.length y, .int .i64 g, .bool m, .bool o], .int .i64 q, .int .i64 q] rfl ag_ ?_; (with_reducible refine (grid_Span.calls k l c _ _ j g m o q q b _ ?side1 ?side2 A4.out).mono ?_); (case side1 => repeat (first | exact (Kd.C_below E.out HB.out) | (with_reducible apply pC))); (case side2 => exact D.out); rintro e w9 ⟨a7, rfl, ax, hb⟩; refine ⟨_, rfl, ?_⟩; have I := Z (Kd.R_lower ax (below_size bl_)); replace a := Z (kb a.out hb); replace HB := Z (below_step bl_ hb); (try clear hb); (try clear W); (try clear hk); (try clear hi); (try clear ax); obtain ⟨az, aC, aD⟩ := Kd.R_slice I.out; subst aD))
  go_loopg [23] k (fun kq a4 w' => ∃ (d : Int), a4 = .int .i64 d ∧ Aside0 (move_line.l0 kq b (b.length : Int) d l c j g m o = some r) ∧ Aside0 (kq ≤ k) ∧ Aside0 (Kd.R (Kd.int .i64) 3 w' w.heap.size (fun _ => True) (.slice az b.length aC) b) ∧ Aside0 (w'.heap[p]? = some (.cells #[.int .i64 l, .int .i64 c, (.slice x j.length y), .int .i64 g, .bool m, .bool o] 24 (0, 0))) ∧ Aside0 (Below w.heap.size w w'))
  case atStart => exact ⟨(0), (dn_), H', ⟨Nat.le_refl _⟩, ⟨by (with_reducible repeat apply pR); exact I.out⟩, ⟨vK a.out⟩, ⟨bl_⟩⟩
  case round =>
   clear H'
   try clear c1
   try clear c2
   try clear aA
   try clear aB
   try clear p2
   try clear p6
   try clear c8
   try clear c10
   try clear X
   try clear Y
   try clear aa
   try clear ab
   try clear ac
   try clear ad
   try clear ae
   try clear af
   try clear ag
   try clear ah
   try clear ai
   try clear aj
   obtain ⟨d, rfl, HA, aw, HO_21, a, HB⟩ := hrel
   cases gk with
   | zero => exact absurd HA.out (by simp [move_line.l0])
   | succ k1 =>
    have H := HA.out
    clear HA
    simp only [move_line.l0] at H
    by_cases F : d < (b.length : Int)
    ·rw [if_pos F] at H
     have ak : decide (d < (b.length : Int)) = true := decide_eq_true F
     clear F
     by_cases L : 0 ≤ d
     ·rw [if_pos L] at H
      have a5 : decide (0 ≤ d) = true := decide_eq_true L
      clear L
      by_cases M : d < (b.length : Int)
      ·rw [if_pos M] at H
       have a6 : decide (d < (b.length : Int)) = true := decide_eq_true M
       clear M
       replace H := Option.bind_eq_some_iff.mp H
       obtain ⟨T, U, H⟩ := H
       replace H : (if T = true then (some (rd b d)) else (move_line.l0 k1 b (b.length : Int) (wrap64 (d + 1)) l c j g m o)) = some r := H
       have ar := Z U
       clear U
       by_cases O : T = true
       ·subst O
        have H1 : (some (rd b d)) = some r := by rw [if_pos rfl] at H; exact H
        clear H
        have H := H1
        clear H1
        obtain rfl := Option.some.inj H
        have z : 0 ≤ (d : Int) := od_
        have A : d < (b.length : Int) := od_
        obtain ⟨V, G, J⟩ := Kd.at_int (Kd.R_reads' HO_21.out).2.2 d z A
        cases G
        replace z := eq_true z
        replace A := eq_true A
        obtain ⟨aE, aF, aG, aH, aI, aJ, aQ, aR, aS, aT, aU, aV⟩ := cells6 a.out
        go_wp2_with (first | ((with_reducible refine gate_callee (f := 44) rfl ?_); refine goesL_ (some 29) rfl rfl Tryd.func44 (by kernel_rfl) rfl #[.agg #[.int .i64 l, .int .i64 c, .slice x j.length y, .int .i64 g, .bool m, .bool o], .int .i64 (rd b d)] rfl ag_ ?_; (with_reducible refine (field_Open.calls l c _ _ j g m o (rd b d) true _ ?side1 ?side2 ar.out).mono ?_); (case side1 => repeat (first | exact (Kd.C_below E.out HB.out) | (with_reducible apply pC))); (case side2 => exact D.out); rintro e bb ⟨rfl, hb⟩; refine ⟨_, rfl, ?_⟩; replace HO_21 := Z (rb HO_21.out hb); replace a := Z (kb a.out hb); replace HB := Z (below_step bl_ hb); (try clear hb); (try clear W); (try clear hk); (try clear hi)))
        go_ret
        exact ⟨er_, bl_⟩
       ·replace O := Bool.eq_false_iff.mpr O
        subst O
        have H1 : (move_line.l0 k1 b (b.length : Int) (wrap64 (d + 1)) l c j g m o) = some r := by rw [if_neg (show ¬ (false = true) by decide)] at H; exact H
        clear H
        have H := H1
        clear H1
        have H' := Z H
        clear H
        have z : 0 ≤ (d : Int) := od_
        have A : d < (b.length : Int) := od_
        obtain ⟨V, G, J⟩ := Kd.at_int (Kd.R_reads' HO_21.out).2.2 d z A
        cases G
        replace z := eq_true z
        replace A := eq_true A
        obtain ⟨aK, aL, aM, aN, aO, aP, aW, aX, aY, aZ, a0, a1⟩ := cells6 a.out
        go_wp2_with (first | ((with_reducible refine gate_callee (f := 44) rfl ?_); refine goesL_ (some 29) rfl rfl Tryd.func44 (by kernel_rfl) rfl #[.agg #[.int .i64 l, .int .i64 c, .slice x j.length y, .int .i64 g, .bool m, .bool o], .int .i64 (rd b d)] rfl ag_ ?_; (with_reducible refine (field_Open.calls l c _ _ j g m o (rd b d) false _ ?side1 ?side2 ar.out).mono ?_); (case side1 => repeat (first | exact (Kd.C_below E.out HB.out) | (with_reducible apply pC))); (case side2 => exact D.out); rintro e bc ⟨rfl, hb⟩; refine ⟨_, rfl, ?_⟩; replace HO_21 := Z (rb HO_21.out hb); replace a := Z (kb a.out hb); replace HB := Z (below_step bl_ hb); (try clear hb); (try clear W); (try clear hk); (try clear hi)))
        go_roundg k1
        case measure => have := aw.out; omega
        case rel => exact ⟨(wrap64 (d + 1)), (dn_), H', ⟨by have := aw.out; omega⟩, ⟨by (with_reducible repeat apply pR); exact HO_21.out⟩, ⟨vK a.out⟩, ⟨bl_⟩⟩
      ·rw [if_neg M] at H
       exact absurd H (by simp)
     ·rw [if_neg L] at H
      exact absurd H (by simp)
    ·rw [if_neg F] at H
     have ak : decide (d < (b.length : Int)) = false := decide_eq_false F
     clear F
     obtain rfl := Option.some.inj H
     go_wp2
     go_ret
     exact ⟨er_, bl_⟩

/-! ### move_to: function 98 -/
def move_to.f (k : Nat) (d : Int) (b : Int) (c : List (S35)) (a : Int) (e : Bool) (g : Bool) (a1 : Int) : Option (Int) := if a1 = 4 then ((grid_On.f d b c a e g a (wrap64 (-b))).bind fun h => (some h)) else (if a1 = 2 then ((grid_On.f d b c a e g a (-1)).bind fun i => (some i)) else (if a1 = 5 then ((grid_On.f d b c a e g a b).bind fun j => (some j)) else (if a1 = 3 then ((grid_On.f d b c a e g a 1).bind fun l => (some l)) else (if a1 = 7 then ((field_Prev.f d b c a e g a).bind fun p => (some (mx 0 p))) else (if a1 = 6 then ((field_Next.f d b c a e g a).bind fun m => (some (mx 0 m))) else (if a1 = 8 then ((field_Next.f d b c a e g (wrap64 ((c.length : Int) - 1))).bind fun n => (some (mx 0 n))) else ((move_line.f k d b c a e g).bind fun o => (some o))))))))
theorem move_to.mono : ∀ a0 a1 a b a4 c d k, LeO (move_to.f k a0 a1 a b a4 c d) (move_to.f (k + 1) a0 a1 a b a4 c d) := by
 intro a0 a1 a b a4 c d k
 unfold move_to.f
 repeat' first
   | (with_reducible exact move_line.mono _ _ _ _ _ _ _)
   | (with_reducible exact LeO.refl _)
   | (with_reducible exact LeO.none _)
   | (with_reducible refine LeO.ite ?_ ?_)
   | (with_reducible refine LeO.bind ?_ (fun _ => ?_))
   | exact move_line.mono _ _ _ _ _ _ _
   | exact LeO.none _
   | refine LeO.ite ?_ ?_
   | refine LeO.bind ?_ (fun _ => ?_)
set_option maxHeartbeats 8000000 in
set_option maxRecDepth 100000 in
theorem move_to.calls (k : Nat) (l : Int) (c : Int) (o : Option Addr) (p : Nat) (d : List (S35)) (b : Int) (m : Bool) (n : Bool) (a1 : Int) (r : Int) (w : World) (X : Kd.C k35 w o d.length d) (W : d.length ≤ p) (h : move_to.f k l c d b m n a1 = some r) :
  Calls Tryd.prog 98 #[.agg #[.int .i64 l, .int .i64 c, .slice o d.length p, .int .i64 b, .bool m, .bool n], .int .i64 a1] w fun e w' => e = .returned (.int .i64 r) ∧ Below w.heap.size w w' := by
 have co := Tryd.underlying24
 have y := Z X
 have x := Z W
 clear X W
 have HB := Z (Below.refl w.heap.size w)
 have H : (if a1 = 4 then ((grid_On.f l c d b m n b (wrap64 (-c))).bind fun G => (some G)) else (if a1 = 2 then ((grid_On.f l c d b m n b (-1)).bind fun I => (some I)) else (if a1 = 5 then ((grid_On.f l c d b m n b c).bind fun J => (some J)) else (if a1 = 3 then ((grid_On.f l c d b m n b 1).bind fun K => (some K)) else (if a1 = 7 then ((field_Prev.f l c d b m n b).bind fun B => (some (mx 0 B))) else (if a1 = 6 then ((field_Next.f l c d b m n b).bind fun z => (some (mx 0 z))) else (if a1 = 8 then ((field_Next.f l c d b m n (wrap64 ((d.length : Int) - 1))).bind fun A => (some (mx 0 A))) else ((move_line.f k l c d b m n).bind fun L => (some L))))))))) = some r := h
 clear h
 by_cases c3 : a1 = 4
 ·rw [if_pos c3] at H
  have aw : (a1 == 4) = true := beq_iff_eq.mpr c3
  have ax : (a1 != 4) = false := bne_eq_false_iff_eq.mpr c3
  clear c3
  replace H := Option.bind_eq_some_iff.mp H
  obtain ⟨G, au, H⟩ := H
  replace H : (some G) = some r := H
  have A4 := Z au
  clear au
  obtain rfl := Option.some.inj H
  go_enter Tryd.func98, Tryd.ntmps98
  go_wp2_with (first | ((with_reducible refine gate_dst (N := 2) rfl ?_); refine bx_ 2 24 #[.int .i64 l, .int .i64 c, .slice o d.length p, .int .i64 b, .bool m, .bool n] ?_; intro g hg w5 hbox hb; have a := Z (hbox); have v := Z (ln_ hg : w.heap.size ≤ g); have u := Z (ln_ hg : w.heap.size ≤ g); replace HB := Z (below_step bl_ hb); clear hb hbox hg; obtain ⟨b1, b2, b3, b4, b5, b6, b7, b8, b9, ca, cb, cc⟩ := cells6 a.out) | ((with_reducible refine gate_callee (f := 80) rfl ?_); refine goesL_ (some 28) rfl rfl Tryd.func80 (by kernel_rfl) rfl #[.agg #[.int .i64 l, .int .i64 c, .slice o d.length p, .int .i64 b, .bool m, .bool n], .int .i64 b, .int .i64 (wrap64 (-c))] rfl ag_ ?_; (with_reducible refine (grid_On.calls l c _ _ d b m n b (wrap64 (-c)) G _ ?side1 ?side2 A4.out).mono ?_); (case side1 => repeat (first | exact (Kd.C_below y.out HB.out) | (with_reducible apply pC))); (case side2 => exact x.out); rintro e w7 ⟨rfl, hb⟩; refine ⟨_, rfl, ?_⟩; replace a := Z (kb a.out hb); replace HB := Z (below_step bl_ hb); (try clear hb); (try clear S); (try clear hk); (try clear hi)))
  go_ret
  exact ⟨er_, bl_⟩
 ·rw [if_neg c3] at H
  have aw : (a1 == 4) = false := beq_eq_false_iff_ne.mpr c3
  have ax : (a1 != 4) = true := bne_iff_ne.mpr c3
  by_cases c8 : a1 = 2
  ·rw [if_pos c8] at H
   have ay : (a1 == 2) = true := beq_iff_eq.mpr c8
   have az : (a1 != 2) = false := bne_eq_false_iff_eq.mpr c8
   clear c8
   replace H := Option.bind_eq_some_iff.mp H
   obtain ⟨I, av, H⟩ := H
   replace H : (some I) = some r := H
   have A9 := Z av
   clear av
   obtain rfl := Option.some.inj H
   go_enter Tryd.func98, Tryd.ntmps98
   go_wp2_with (first | ((with_reducible refine gate_dst (N := 2) rfl ?_); refine bx_ 2 24 #[.int .i64 l, .int .i64 c, .slice o d.length p, .int .i64 b, .bool m, .bool n] ?_; intro g hg cp hbox hb; have a := Z (hbox); have v := Z (ln_ hg : w.heap.size ≤ g); have u := Z (ln_ hg : w.heap.size ≤ g); replace HB := Z (below_step bl_ hb); clear hb hbox hg; obtain ⟨aA, aB, aC, aD, aE, aF, bh, bi, bj, bk, bl, bm⟩ := cells6 a.out) | ((with_reducible refine gate_callee (f := 80) rfl ?_); refine goesL_ (some 28) rfl rfl Tryd.func80 (by kernel_rfl) rfl #[.agg #[.int .i64 l, .int .i64 c, .slice o d.length p, .int .i64 b, .bool m, .bool n], .int .i64 b, .int .i64 (-1)] rfl ag_ ?_; (with_reducible refine (grid_On.calls l c _ _ d b m n b (-1) I _ ?side1 ?side2 A9.out).mono ?_); (case side1 => repeat (first | exact (Kd.C_below y.out HB.out) | (with_reducible apply pC))); (case side2 => exact x.out); rintro e cq ⟨rfl, hb⟩; refine ⟨_, rfl, ?_⟩; replace a := Z (kb a.out hb); replace HB := Z (below_step bl_ hb); (try clear hb); (try clear S); (try clear hk); (try clear hi)))
   go_ret
   exact ⟨er_, bl_⟩
  ·rw [if_neg c8] at H
   have ay : (a1 == 2) = false := beq_eq_false_iff_ne.mpr c8
   have az : (a1 != 2) = true := bne_iff_ne.mpr c8
   by_cases M : a1 = 5
   ·rw [if_pos M] at H
    have af : (a1 == 5) = true := beq_iff_eq.mpr M
    have ag : (a1 != 5) = false := bne_eq_false_iff_eq.mpr M
    clear M
    replace H := Option.bind_eq_some_iff.mp H
    obtain ⟨J, Y, H⟩ := H
    replace H : (some J) = some r := H
    have bY := Z Y
    clear Y
    obtain rfl := Option.some.inj H
    go_enter Tryd.func98, Tryd.ntmps98
    go_wp2_with (first | ((with_reducible refine gate_dst (N := 2) rfl ?_); refine bx_ 2 24 #[.int .i64 l, .int .i64 c, .slice o d.length p, .int .i64 b, .bool m, .bool n] ?_; intro g hg cr hbox hb; have a := Z (hbox); have v := Z (ln_ hg : w.heap.size ≤ g); have u := Z (ln_ hg : w.heap.size ≤ g); replace HB := Z (below_step bl_ hb); clear hb hbox hg; obtain ⟨aG, aH, aI, aJ, aK, aL, bn, bo, bp, bq, br, bs⟩ := cells6 a.out) | ((with_reducible refine gate_callee (f := 80) rfl ?_); refine goesL_ (some 35) rfl rfl Tryd.func80 (by kernel_rfl) rfl #[.agg #[.int .i64 l, .int .i64 c, .slice o d.length p, .int .i64 b, .bool m, .bool n], .int .i64 b, .int .i64 c] rfl ag_ ?_; (with_reducible refine (grid_On.calls l c _ _ d b m n b c J _ ?side1 ?side2 bY.out).mono ?_); (case side1 => repeat (first | exact (Kd.C_below y.out HB.out) | (with_reducible apply pC))); (case side2 => exact x.out); rintro e ct ⟨rfl, hb⟩; refine ⟨_, rfl, ?_⟩; replace a := Z (kb a.out hb); replace HB := Z (below_step bl_ hb); (try clear hb); (try clear S); (try clear hk); (try clear hi)))
    go_ret
    exact ⟨er_, bl_⟩
   ·rw [if_neg M] at H
    have af : (a1 == 5) = false := beq_eq_false_iff_ne.mpr M
    have ag : (a1 != 5) = true := bne_iff_ne.mpr M
    by_cases O : a1 = 3
    ·rw [if_pos O] at H
     have ah : (a1 == 3) = true := beq_iff_eq.mpr O
     have ai : (a1 != 3) = false := bne_eq_false_iff_eq.mpr O
     clear O
     replace H := Option.bind_eq_some_iff.mp H
     obtain ⟨K, aa, H⟩ := H
     replace H : (some K) = some r := H
     have bZ := Z aa
     clear aa
     obtain rfl := Option.some.inj H
     go_enter Tryd.func98, Tryd.ntmps98
     go_wp2_with (first | ((with_reducible refine gate_dst (N := 2) rfl ?_); refine bx_ 2 24 #[.int .i64 l, .int .i64 c, .slice o d.length p, .int .i64 b, .bool m, .bool n] ?_; intro g hg cu hbox hb; have a := Z (hbox); have v := Z (ln_ hg : w.heap.size ≤ g); have u := Z (ln_ hg : w.heap.size ≤ g); replace HB := Z (below_step bl_ hb); clear hb hbox hg; obtain ⟨aM, aN, aO, aP, aQ, aR, bt, bu, bv, bw, bx, bz⟩ := cells6 a.out) | ((with_reducible refine gate_callee (f := 80) rfl ?_); refine goesL_ (some 35) rfl rfl Tryd.func80 (by kernel_rfl) rfl #[.agg #[.int .i64 l, .int .i64 c, .slice o d.length p, .int .i64 b, .bool m, .bool n], .int .i64 b, .int .i64 1] rfl ag_ ?_; (with_reducible refine (grid_On.calls l c _ _ d b m n b 1 K _ ?side1 ?side2 bZ.out).mono ?_); (case side1 => repeat (first | exact (Kd.C_below y.out HB.out) | (with_reducible apply pC))); (case side2 => exact x.out); rintro e cv ⟨rfl, hb⟩; refine ⟨_, rfl, ?_⟩; replace a := Z (kb a.out hb); replace HB := Z (below_step bl_ hb); (try clear hb); (try clear S); (try clear hk); (try clear hi)))
     go_ret
     exact ⟨er_, bl_⟩
    ·rw [if_neg O] at H
     have ah : (a1 == 3) = false := beq_eq_false_iff_ne.mpr O
     have ai : (a1 != 3) = true := bne_iff_ne.mpr O
     by_cases P : a1 = 7
     ·rw [if_pos P] at H
      have aj : (a1 == 7) = true := beq_iff_eq.mpr P
      have ak : (a1 != 7) = false := bne_eq_false_iff_eq.mpr P
      clear P
      replace H := Option.bind_eq_some_iff.mp H
      obtain ⟨B, ab, H⟩ := H
      replace H : (some (mx 0 B)) = some r := H
      have ap := Z ab
      clear ab
      obtain ⟨T, D⟩ : ∃ j_ : Int, (mx 0 B) = j_ := ⟨_, rfl⟩
      replace H : (some T) = some r := by first | (rw [D] at H; exact H) | (simp only [D] at H ⊢; exact H)
      (try rw [D] at ap)
      (try (have ce : 0 ≤ T := by (rw [← D]; unfold mx; (repeat' split) <;> omega)))
      (try (have cf : 0 ≤ T := by omega))
      have cd : (if 0 < B then B else 0) = T := D
      obtain rfl := Option.some.inj H
      go_enter Tryd.func98, Tryd.ntmps98
      go_wp2_with (first | ((with_reducible refine gate_dst (N := 2) rfl ?_); refine bx_ 2 24 #[.int .i64 l, .int .i64 c, .slice o d.length p, .int .i64 b, .bool m, .bool n] ?_; intro g hg cw hbox hb; have a := Z (hbox); have v := Z (ln_ hg : w.heap.size ≤ g); have u := Z (ln_ hg : w.heap.size ≤ g); replace HB := Z (below_step bl_ hb); clear hb hbox hg; obtain ⟨aS, aT, aU, aV, aW, aX, bA, bB, bC, bD, bE, bF⟩ := cells6 a.out) | ((with_reducible refine gate_callee (f := 101) rfl ?_); refine goesL_ (some 39) rfl rfl Tryd.func101 (by kernel_rfl) rfl #[.agg #[.int .i64 l, .int .i64 c, .slice o d.length p, .int .i64 b, .bool m, .bool n], .int .i64 b] rfl ag_ ?_; (with_reducible refine (field_Prev.calls l c _ _ d b m n b B _ ?side1 ?side2 ap.out).mono ?_); (case side1 => repeat (first | exact (Kd.C_below y.out HB.out) | (with_reducible apply pC))); (case side2 => exact x.out); rintro e cx ⟨rfl, hb⟩; refine ⟨_, rfl, ?_⟩; replace a := Z (kb a.out hb); replace HB := Z (below_step bl_ hb); (try clear hb); (try clear S); (try clear hk); (try clear hi)))
      go_ret
      exact ⟨by first | rfl | (simp [errW_none, errW_some] <;> rfl) | (simp only [← D]; first | rfl | (simp [errW_none, errW_some] <;> rfl)) | (simp [*, errW_none, errW_some] <;> rfl), bl_⟩
     ·rw [if_neg P] at H
      have aj : (a1 == 7) = false := beq_eq_false_iff_ne.mpr P
      have ak : (a1 != 7) = true := bne_iff_ne.mpr P
      by_cases Q : a1 = 6
      ·rw [if_pos Q] at H
       have al : (a1 == 6) = true := beq_iff_eq.mpr Q
       have am : (a1 != 6) = false := bne_eq_false_iff_eq.mpr Q
       clear Q
       replace H := Option.bind_eq_some_iff.mp H
       obtain ⟨z, ac, H⟩ := H
       replace H : (some (mx 0 z)) = some r := H
       have aq := Z ac
       clear ac
       obtain ⟨U, E⟩ : ∃ j_ : Int, (mx 0 z) = j_ := ⟨_, rfl⟩
       replace H : (some U) = some r := by first | (rw [E] at H; exact H) | (simp only [E] at H ⊢; exact H)
       (try rw [E] at aq)
       (try (have ch : 0 ≤ U := by (rw [← E]; unfold mx; (repeat' split) <;> omega)))
       (try (have ci : 0 ≤ U := by omega))
       have cg : (if 0 < z then z else 0) = U := E
       obtain rfl := Option.some.inj H
       go_enter Tryd.func98, Tryd.ntmps98
       go_wp2_with (first | ((with_reducible refine gate_dst (N := 2) rfl ?_); refine bx_ 2 24 #[.int .i64 l, .int .i64 c, .slice o d.length p, .int .i64 b, .bool m, .bool n] ?_; intro g hg cy hbox hb; have a := Z (hbox); have v := Z (ln_ hg : w.heap.size ≤ g); have u := Z (ln_ hg : w.heap.size ≤ g); replace HB := Z (below_step bl_ hb); clear hb hbox hg; obtain ⟨aY, aZ, a0, a2, a3, a4, bG, bH, bI, bJ, bK, bL⟩ := cells6 a.out) | ((with_reducible refine gate_callee (f := 67) rfl ?_); refine goesL_ (some 44) rfl rfl Tryd.func67 (by kernel_rfl) rfl #[.agg #[.int .i64 l, .int .i64 c, .slice o d.length p, .int .i64 b, .bool m, .bool n], .int .i64 b] rfl ag_ ?_; (with_reducible refine (field_Next.calls l c _ _ d b m n b z _ ?side1 ?side2 aq.out).mono ?_); (case side1 => repeat (first | exact (Kd.C_below y.out HB.out) | (with_reducible apply pC))); (case side2 => exact x.out); rintro e cz ⟨rfl, hb⟩; refine ⟨_, rfl, ?_⟩; replace a := Z (kb a.out hb); replace HB := Z (below_step bl_ hb); (try clear hb); (try clear S); (try clear hk); (try clear hi)))
       go_ret
       exact ⟨by first | rfl | (simp [errW_none, errW_some] <;> rfl) | (simp only [← E]; first | rfl | (simp [errW_none, errW_some] <;> rfl)) | (simp [*, errW_none, errW_some] <;> rfl), bl_⟩
      ·rw [if_neg Q] at H
       have al : (a1 == 6) = false := beq_eq_false_iff_ne.mpr Q
       have am : (a1 != 6) = true := bne_iff_ne.mpr Q
       by_cases R : a1 = 8
       ·rw [if_pos R] at H
        have an : (a1 == 8) = true := beq_iff_eq.mpr R
        have ao : (a1 != 8) = false := bne_eq_false_iff_eq.mpr R
        clear R
        replace H := Option.bind_eq_some_iff.mp H
        obtain ⟨A, ad, H⟩ := H
        replace H : (some (mx 0 A)) = some r := H
        have ar := Z ad
        clear ad
        obtain ⟨V, F⟩ : ∃ j_ : Int, (mx 0 A) = j_ := ⟨_, rfl⟩
        replace H : (some V) = some r := by first | (rw [F] at H; exact H) | (simp only [F] at H ⊢; exact H)
        (try rw [F] at ar)
        (try (have ck : 0 ≤ V := by (rw [← F]; unfold mx; (repeat' split) <;> omega)))
        (try (have cl : 0 ≤ V := by omega))
        have cj : (if 0 < A then A else 0) = V := F
        obtain rfl := Option.some.inj H
        go_enter Tryd.func98, Tryd.ntmps98
        go_wp2_with (first | ((with_reducible refine gate_dst (N := 2) rfl ?_); refine bx_ 2 24 #[.int .i64 l, .int .i64 c, .slice o d.length p, .int .i64 b, .bool m, .bool n] ?_; intro g hg cA hbox hb; have a := Z (hbox); have v := Z (ln_ hg : w.heap.size ≤ g); have u := Z (ln_ hg : w.heap.size ≤ g); replace HB := Z (below_step bl_ hb); clear hb hbox hg; obtain ⟨a5, a6, a7, a8, a9, ba, bM, bN, bO, bP, bQ, bR⟩ := cells6 a.out) | ((with_reducible refine gate_callee (f := 67) rfl ?_); refine goesL_ (some 51) rfl rfl Tryd.func67 (by kernel_rfl) rfl #[.agg #[.int .i64 l, .int .i64 c, .slice o d.length p, .int .i64 b, .bool m, .bool n], .int .i64 (wrap64 ((d.length : Int) - 1))] rfl ag_ ?_; (with_reducible refine (field_Next.calls l c _ _ d b m n (wrap64 ((d.length : Int) - 1)) A _ ?side1 ?side2 ar.out).mono ?_); (case side1 => repeat (first | exact (Kd.C_below y.out HB.out) | (with_reducible apply pC))); (case side2 => exact x.out); rintro e cB ⟨rfl, hb⟩; refine ⟨_, rfl, ?_⟩; replace a := Z (kb a.out hb); replace HB := Z (below_step bl_ hb); (try clear hb); (try clear S); (try clear hk); (try clear hi)))
        go_ret
        exact ⟨by first | rfl | (simp [errW_none, errW_some] <;> rfl) | (simp only [← F]; first | rfl | (simp [errW_none, errW_some] <;> rfl)) | (simp [*, errW_none, errW_some] <;> rfl), bl_⟩
       ·rw [if_neg R] at H
        have an : (a1 == 8) = false := beq_eq_false_iff_ne.mpr R
        have ao : (a1 != 8) = true := bne_iff_ne.mpr R
        replace H := Option.bind_eq_some_iff.mp H
        obtain ⟨L, ae, H⟩ := H
        replace H : (some L) = some r := H
        have b0 := Z ae
        clear ae
        obtain rfl := Option.some.inj H
        go_enter Tryd.func98, Tryd.ntmps98
        go_wp2_with (first | ((with_reducible refine gate_dst (N := 2) rfl ?_); refine bx_ 2 24 #[.int .i64 l, .int .i64 c, .slice o d.length p, .int .i64 b, .bool m, .bool n] ?_; intro g hg cC hbox hb; have a := Z (hbox); have v := Z (ln_ hg : w.heap.size ≤ g); have u := Z (ln_ hg : w.heap.size ≤ g); replace HB := Z (below_step bl_ hb); clear hb hbox hg; obtain ⟨bb, bc, bd, be, bf, bg, bS, bT, bU, bV, bW, bX⟩ := cells6 a.out) | ((with_reducible refine gate_callee (f := 102) rfl ?_); refine goesL_ (some 54) rfl rfl Tryd.func102 (by kernel_rfl) rfl #[.agg #[.int .i64 l, .int .i64 c, .slice o d.length p, .int .i64 b, .bool m, .bool n]] rfl ag_ ?_; (with_reducible refine (move_line.calls k l c _ _ d b m n L _ ?side1 ?side2 b0.out).mono ?_); (case side1 => repeat (first | exact (Kd.C_below y.out HB.out) | (with_reducible apply pC))); (case side2 => exact x.out); rintro e cD ⟨rfl, hb⟩; refine ⟨_, rfl, ?_⟩; replace a := Z (kb a.out hb); replace HB := Z (below_step bl_ hb); (try clear hb); (try clear S); (try clear hk); (try clear hi)))
        go_ret
        exact ⟨er_, bl_⟩

/-! ### move_Do: function 86 -/
def move_Do.f (k : Nat) (c : Int) (d : Int) (h : List (S35)) (e : Int) (b : Bool) (g : Bool) (a1 : Int) : Option (Int × Int × (List (S35)) × Int × Bool × Bool × Option Er × (List (S164))) := (move_Moves.f a1).bind fun i => (if i = true then (if b = true then (some (c, d, h, e, b, g, some (Er.num 7), ([] : List (S164)))) else ((grid_Copy.f c d h e b g).bind fun a => ((move_to.f k a.1 a.2.1 a.2.2.1 a.2.2.2.1 a.2.2.2.2.1 a.2.2.2.2.2 a1).bind fun j => (some (a.1, a.2.1, a.2.2.1, j, a.2.2.2.2.1, a.2.2.2.2.2, none, ([] : List (S164))))))) else (some (c, d, h, e, b, g, some (Er.num 1), ([] : List (S164)))))
theorem move_Do.mono : ∀ a0 a1 a b a4 c d k, LeO (move_Do.f k a0 a1 a b a4 c d) (move_Do.f (k + 1) a0 a1 a b a4 c d) := by
 intro a0 a1 a b a4 c d k
 unfold move_Do.f
 repeat' first
   | (with_reducible exact move_to.mono _ _ _ _ _ _ _ _)
   | (with_reducible exact LeO.refl _)
   | (with_reducible exact LeO.none _)
   | (with_reducible refine LeO.ite ?_ ?_)
   | (with_reducible refine LeO.bind ?_ (fun _ => ?_))
   | exact move_to.mono _ _ _ _ _ _ _ _
   | exact LeO.none _
   | refine LeO.ite ?_ ?_
   | refine LeO.bind ?_ (fun _ => ?_)
set_option maxHeartbeats 8000000 in
set_option maxRecDepth 100000 in
theorem move_Do.calls (k : Nat) (q : Int) (r : Int) (T : Nat → Prop) (G : Option Addr) (I : Nat) (m : List (S35)) (s : Int) (F : Bool) (u : Bool) (a1 : Int) (r1 : Int) (r2 : Int) (r3 : List (S35)) (r4 : Int) (r5 : Bool) (r6 : Bool) (r7 : Option Er) (r8 : List (S164)) (w : World) (aq : Kd.V k35 35 w w.heap.size (fun k_ => T k_) (.slice G m.length I) m) (h : move_Do.f k q r m s F u a1 = some (r1, r2, r3, r4, r5, r6, r7, r8)) :
  Calls Tryd.prog 86 #[.agg #[.int .i64 q, .int .i64 r, .slice G m.length I, .int .i64 s, .bool F, .bool u], .int .i64 a1] w fun e w' => ∃ au av : Value, e = .returned (.tuple #[.agg #[.int .i64 r1, .int .i64 r2, au, .int .i64 r4, .bool r5, .bool r6], errW av r7]) ∧ Kd.V k35 35 w' w.heap.size (fun k_ => (T k_ ∨ w.heap.size ≤ k_)) au r3 ∧ Kd.V k164 164 w' w.heap.size (fun k_ => (T k_ ∨ w.heap.size ≤ k_)) av r8 ∧ Below w.heap.size w w' := by
 have ci := Tryd.underlying24
 have cj := Tryd.underlying28
 have ck := Tryd.underlying52
 have j := Z (show Kd.V k35 35 w w.heap.size (fun k_ => (T k_ ∨ w.heap.size ≤ k_)) (.slice G m.length I) m from Kd.V_mono aq (fun k_ hk => .inl hk))
 have HB := Z (Below.refl w.heap.size w)
 have H : ((move_Moves.f a1).bind fun Y => (if Y = true then (if F = true then (some (q, r, m, s, F, u, some (Er.num 7), ([] : List (S164)))) else ((grid_Copy.f q r m s F u).bind fun a => ((move_to.f k a.1 a.2.1 a.2.2.1 a.2.2.2.1 a.2.2.2.2.1 a.2.2.2.2.2 a1).bind fun B => (some (a.1, a.2.1, a.2.2.1, B, a.2.2.2.2.1, a.2.2.2.2.2, none, ([] : List (S164))))))) else (some (q, r, m, s, F, u, some (Er.num 1), ([] : List (S164)))))) = some (r1, r2, r3, r4, r5, r6, r7, r8) := h
 clear h
 replace H := Option.bind_eq_some_iff.mp H
 obtain ⟨Y, ar, H⟩ := H
 replace H : (if Y = true then (if F = true then (some (q, r, m, s, F, u, some (Er.num 7), ([] : List (S164)))) else ((grid_Copy.f q r m s F u).bind fun a => ((move_to.f k a.1 a.2.1 a.2.2.1 a.2.2.2.1 a.2.2.2.2.1 a.2.2.2.2.2 a1).bind fun B => (some (a.1, a.2.1, a.2.2.1, B, a.2.2.2.2.1, a.2.2.2.2.2, none, ([] : List (S164))))))) else (some (q, r, m, s, F, u, some (Er.num 1), ([] : List (S164))))) = some (r1, r2, r3, r4, r5, r6, r7, r8) := H
 have A3 := Z ar
 clear ar
 by_cases c4 : Y = true
 ·subst c4
  have H1 : (if F = true then (some (q, r, m, s, F, u, some (Er.num 7), ([] : List (S164)))) else ((grid_Copy.f q r m s F u).bind fun a => ((move_to.f k a.1 a.2.1 a.2.2.1 a.2.2.2.1 a.2.2.2.2.1 a.2.2.2.2.2 a1).bind fun B => (some (a.1, a.2.1, a.2.2.1, B, a.2.2.2.2.1, a.2.2.2.2.2, none, ([] : List (S164))))))) = some (r1, r2, r3, r4, r5, r6, r7, r8) := by rw [if_pos rfl] at H; exact H
  clear H
  have H := H1
  clear H1
  by_cases c5 : F = true
  ·subst c5
   have H1 : (some (q, r, m, s, true, u, some (Er.num 7), ([] : List (S164)))) = some (r1, r2, r3, r4, r5, r6, r7, r8) := by rw [if_pos rfl] at H; exact H
   clear H
   have H := H1
   clear H1
   simp only [Option.some.injEq, Prod.mk.injEq] at H
   obtain ⟨rfl, rfl, rfl, rfl, rfl, rfl, rfl, rfl⟩ := H
   go_enter Tryd.func86, Tryd.ntmps86
   go_wp2_with (first | ((with_reducible refine gate_dst (N := 2) rfl ?_); refine bx_ 2 24 #[.int .i64 q, .int .i64 r, .slice G m.length I, .int .i64 s, .bool true, .bool u] ?_; intro i hg w6 hbox hb; replace j := Z (ve j.out hg hb); have b := Z (hbox); have al := Z (ln_ hg : w.heap.size ≤ i); have aj := Z (ln_ hg : w.heap.size ≤ i); replace HB := Z (below_step bl_ hb); clear hb hbox hg) | ((with_reducible refine gate_dst (N := 4) rfl ?_); refine bx_ 4 24 #[.int .i64 0, .int .i64 0, .slice none 0 0, .int .i64 0, .bool false, .bool false] ?_; intro d hg w7 hbox hb; replace j := Z (ve j.out hg hb); have l := Z (hbox); have am := Z (ln_ hg : w.heap.size ≤ d); have ak := Z (ln_ hg : w.heap.size ≤ d); replace HB := Z (below_step bl_ hb); have L := Z (nl b.out hg); have C := Z (ng b.out hg); replace b := Z (kb b.out hb); clear hb hbox hg) | ((with_reducible refine gate_callee (f := 85) rfl ?_); refine goesL_ (some 8) rfl rfl Tryd.func85 (by kernel_rfl) rfl #[.int .i64 a1] rfl ag_ ?_; (with_reducible refine (move_Moves.calls a1 true _ A3.out).mono ?_); rintro e w' ⟨rfl, ⟨nd, rfl⟩⟩; refine ⟨_, rfl, ?_⟩; (try (rw [drewN_self w7]; generalize hq_ : World.drewN w7 _ = w7; replace j := Z (qV hq_ j.out); replace b := Z (qM hq_ b.out); replace l := Z (qM hq_ l.out); replace HB := Z (qB hq_ HB.out); clear hq_)); have cg := L.out; have ch := C.out; obtain ⟨bZ, b0, b1, b2, b3, b4, b5, b6, b7, b8, b9, ca⟩ := cells6 b.out; obtain ⟨ay, az, aA, aB, aC, aD, bf, bg, bh, bi, bj, bk⟩ := cells6 l.out))
   refine bodyPost_ret (results_ct rfl _ _ d 24 #[.int .i64 q, .int .i64 r, .slice G m.length I, .int .i64 s, .bool true, .bool u] (0, 0) _ rfl (put6 l.out) Tryd.underlying24 rfl (by kernel_rfl)) rfl ?_
   exact ⟨_, _, er_, by (with_reducible repeat apply pV); exact Kd.V_mono (f6V d (Kd.V_mono j.out (fun k_ hk => (⟨hk, hk.2⟩ : _ ∧ k_ ≠ d))) (fun _ hk => hk.2)) (fun _ hk => hk.1.1.1), Kd.R_V (Kd.R_nil _ _ _ 0 _), bl_⟩
  ·replace c5 := Bool.eq_false_iff.mpr c5
   subst c5
   have H1 : ((grid_Copy.f q r m s false u).bind fun a => ((move_to.f k a.1 a.2.1 a.2.2.1 a.2.2.2.1 a.2.2.2.2.1 a.2.2.2.2.2 a1).bind fun B => (some (a.1, a.2.1, a.2.2.1, B, a.2.2.2.2.1, a.2.2.2.2.2, none, ([] : List (S164)))))) = some (r1, r2, r3, r4, r5, r6, r7, r8) := by rw [if_neg (show ¬ (false = true) by decide)] at H; exact H
   clear H
   have H := H1
   clear H1
   replace H := Option.bind_eq_some_iff.mp H
   obtain ⟨⟨A, D, E, R, K, O⟩, an, H⟩ := H
   replace H : ((move_to.f k A D E R K O a1).bind fun B => (some (A, D, E, B, K, O, none, ([] : List (S164))))) = some (r1, r2, r3, r4, r5, r6, r7, r8) := H
   have bW := Z an
   clear an
   replace H := Option.bind_eq_some_iff.mp H
   obtain ⟨B, ao, H⟩ := H
   replace H : (some (A, D, E, B, K, O, none, ([] : List (S164)))) = some (r1, r2, r3, r4, r5, r6, r7, r8) := H
   have bX := Z ao
   clear ao
   simp only [Option.some.injEq, Prod.mk.injEq] at H
   obtain ⟨rfl, rfl, rfl, rfl, rfl, rfl, rfl, rfl⟩ := H
   go_enter Tryd.func86, Tryd.ntmps86
   go_wp2_with (first | ((with_reducible refine gate_dst (N := 2) rfl ?_); refine bx_ 2 24 #[.int .i64 q, .int .i64 r, .slice G m.length I, .int .i64 s, .bool false, .bool u] ?_; intro i hg cl hbox hb; replace j := Z (ve j.out hg hb); have b := Z (hbox); have al := Z (ln_ hg : w.heap.size ≤ i); have aj := Z (ln_ hg : w.heap.size ≤ i); replace HB := Z (below_step bl_ hb); clear hb hbox hg) | ((with_reducible refine gate_dst (N := 4) rfl ?_); refine bx_ 4 24 #[.int .i64 0, .int .i64 0, .slice none 0 0, .int .i64 0, .bool false, .bool false] ?_; intro d hg aa hbox hb; replace j := Z (ve j.out hg hb); have l := Z (hbox); have am := Z (ln_ hg : w.heap.size ≤ d); have ak := Z (ln_ hg : w.heap.size ≤ d); replace HB := Z (below_step bl_ hb); have L := Z (nl b.out hg); have C := Z (ng b.out hg); replace b := Z (kb b.out hb); clear hb hbox hg) | ((with_reducible refine gate_callee (f := 85) rfl ?_); refine goesL_ (some 8) rfl rfl Tryd.func85 (by kernel_rfl) rfl #[.int .i64 a1] rfl ag_ ?_; (with_reducible refine (move_Moves.calls a1 true _ A3.out).mono ?_); rintro e w' ⟨rfl, ⟨nd, rfl⟩⟩; refine ⟨_, rfl, ?_⟩; (try (rw [drewN_self aa]; generalize hq_ : World.drewN aa _ = aa; replace j := Z (qV hq_ j.out); replace b := Z (qM hq_ b.out); replace l := Z (qM hq_ l.out); replace HB := Z (qB hq_ HB.out); clear hq_)); have cb := L.out; have cd := C.out; obtain ⟨aE, aF, aG, aH, aI, aJ, bl, bm, bn, bo, bp, bq⟩ := cells6 b.out) | ((with_reducible refine gate_callee (f := 61) rfl ?_); refine goesL_ (some 18) rfl rfl Tryd.func61 (by kernel_rfl) rfl #[.agg #[.int .i64 q, .int .i64 r, .slice G m.length I, .int .i64 s, .bool false, .bool u]] rfl ag_ ?_; (with_reducible refine (grid_Copy.calls q r _ _ m s false u A D E R K O _ ?side1 ?side2 bW.out).mono ?_); (case side1 => repeat (first | exact (Kd.V_reads' j.out).2.2 | (with_reducible apply pC))); (case side2 => exact (Kd.V_reads' j.out).2.1); rintro e cm ⟨cf, rfl, ap, hb⟩; refine ⟨_, rfl, ?_⟩; replace j := Z (Kd.V_elder' (vV j.out) (Kd.R_base ap) hb); have P := Z (Kd.R_lower (Kd.R_newM (M := fun k_ => (w.heap.size ≤ k_)) ap (below_size bl_) (fun k_ h_ => h_)) (below_size bl_)); replace b := Z (kb b.out hb); replace l := Z (kb l.out hb); replace HB := Z (below_step bl_ hb); (try clear hb); (try clear bY); (try clear hk); (try clear hi); (try clear ap); obtain ⟨aK, aL, aM, aN, aO, aP, br, bs, bt, bu, bv, bw⟩ := cells6 b.out; obtain ⟨S, Q, ax⟩ := Kd.R_slice P.out; subst ax) | ((with_reducible refine gate_callee (f := 98) rfl ?_); refine goesL_ (some 21) rfl rfl Tryd.func98 (by kernel_rfl) rfl #[.agg #[.int .i64 A, .int .i64 D, .slice S E.length Q, .int .i64 R, .bool K, .bool O], .int .i64 a1] rfl ag_ ?_; (with_reducible refine (move_to.calls k A D _ _ E R K O a1 B _ ?side1 ?side2 bX.out).mono ?_); (case side1 => refine (Kd.R_reads' (e := 35) (base := w.heap.size) (ok := fun k_ => (((w.heap.size ≤ k_)) ∧ True)) (n := E.length) (c := Q) ?_).2.2; exact (by (with_reducible repeat apply pR); exact (Kd.R_mono (f6R i (Kd.R_types P.out b.out (by decide)) (fun _ hk => hk.2)) (fun _ h_ => h_.1)))); (case side2 => exact (Kd.R_reads' P.out).2.1); rintro e cn ⟨rfl, hb⟩; refine ⟨_, rfl, ?_⟩; replace j := Z (Kd.V_below (by (with_reducible repeat apply pV); exact (Kd.V_mono (f6V i (Kd.V_mono j.out (fun k_ hk => (⟨hk, hk.1.1.2⟩ : _ ∧ k_ ≠ i))) (fun _ hk => hk.2)) (fun _ h_ => h_.1))) hb); replace P := Z (Kd.R_below (by (with_reducible repeat apply pR); exact (Kd.R_mono (f6R i (Kd.R_types P.out b.out (by decide)) (fun _ hk => hk.2)) (fun _ h_ => h_.1))) hb); replace b := Z (blk_below (g := i) (o := .cells #[.int .i64 A, .int .i64 D, .slice S E.length Q, .int .i64 R, .bool K, .bool O] 24 (0, 0)) (put6 b.out) hb); replace l := Z (blk_below (g := d) (o := .cells #[.int .i64 0, .int .i64 0, .slice none 0 0, .int .i64 0, .bool false, .bool false] 24 (0, 0)) (blk_off l.out C.out off2_) hb); replace HB := Z (below_step bl_ hb); (try clear hb); (try clear bY); (try clear hk); (try clear hi); obtain ⟨aQ, aR, aS, aT, aU, aV, bx, bz, bA, bB, bC, bD⟩ := cells6 b.out; obtain ⟨aW, aX, aY, aZ, a0, a2, bE, bF, bG, bH, bI, bJ⟩ := cells6 l.out))
   refine bodyPost_ret (results_ct rfl _ _ d 24 #[.int .i64 A, .int .i64 D, .slice S E.length Q, .int .i64 B, .bool K, .bool O] (0, 0) _ rfl (by (with_reducible repeat apply pK); refine blk_put (cs := #[.int .i64 A, .int .i64 D, .slice S E.length Q, .int .i64 B, .bool K, .bool false]) ?_ 5 _ rfl; (with_reducible repeat apply pK); refine blk_put (cs := #[.int .i64 A, .int .i64 D, .slice S E.length Q, .int .i64 B, .bool false, .bool false]) ?_ 4 _ rfl; (with_reducible repeat apply pK); refine blk_put (cs := #[.int .i64 A, .int .i64 D, .slice S E.length Q, .int .i64 0, .bool false, .bool false]) ?_ 3 _ rfl; (with_reducible repeat apply pK); refine blk_put (cs := #[.int .i64 A, .int .i64 D, .slice none 0 0, .int .i64 0, .bool false, .bool false]) ?_ 2 _ rfl; (with_reducible repeat apply pK); refine blk_put (cs := #[.int .i64 A, .int .i64 0, .slice none 0 0, .int .i64 0, .bool false, .bool false]) ?_ 1 _ rfl; (with_reducible repeat apply pK); refine blk_put (cs := #[.int .i64 0, .int .i64 0, .slice none 0 0, .int .i64 0, .bool false, .bool false]) ?_ 0 _ rfl; (with_reducible repeat apply pK); refine blk_far ?_ C.out _; (with_reducible repeat apply pK); exact l.out) Tryd.underlying24 rfl (by kernel_rfl)) rfl ?_
   exact ⟨_, _, er_, Kd.V_mono (Kd.R_V (by (with_reducible repeat apply pR); exact Kd.R_mono (f6R d (Kd.R_far (p := ⟨i, 3, none⟩) (Kd.R_types (Kd.R_types P.out b.out (by decide)) l.out (by decide)) (fun _ hk => hk.1.2) (.int .i64 B)) (fun _ hk => hk.2)) (fun _ hk => hk.1.1.1))) (fun k_ hk => by first | exact ⟨(.inr (hk.1)), hk.2⟩ | exact (.inr (hk))), Kd.R_V (Kd.R_nil _ _ _ 0 _), bl_⟩
 ·replace c4 := Bool.eq_false_iff.mpr c4
  subst c4
  have H1 : (some (q, r, m, s, F, u, some (Er.num 1), ([] : List (S164)))) = some (r1, r2, r3, r4, r5, r6, r7, r8) := by rw [if_neg (show ¬ (false = true) by decide)] at H; exact H
  clear H
  have H := H1
  clear H1
  simp only [Option.some.injEq, Prod.mk.injEq] at H
  obtain ⟨rfl, rfl, rfl, rfl, rfl, rfl, rfl, rfl⟩ := H
  go_enter Tryd.func86, Tryd.ntmps86
  go_wp2_with (first | ((with_reducible refine gate_dst (N := 2) rfl ?_); refine bx_ 2 24 #[.int .i64 q, .int .i64 r, .slice G m.length I, .int .i64 s, .bool F, .bool u] ?_; intro i hg co hbox hb; replace j := Z (ve j.out hg hb); have b := Z (hbox); have al := Z (ln_ hg : w.heap.size ≤ i); have aj := Z (ln_ hg : w.heap.size ≤ i); replace HB := Z (below_step bl_ hb); clear hb hbox hg) | ((with_reducible refine gate_dst (N := 4) rfl ?_); refine bx_ 4 24 #[.int .i64 0, .int .i64 0, .slice none 0 0, .int .i64 0, .bool false, .bool false] ?_; intro d hg ab hbox hb; replace j := Z (ve j.out hg hb); have l := Z (hbox); have am := Z (ln_ hg : w.heap.size ≤ d); have ak := Z (ln_ hg : w.heap.size ≤ d); replace HB := Z (below_step bl_ hb); have L := Z (nl b.out hg); have C := Z (ng b.out hg); replace b := Z (kb b.out hb); clear hb hbox hg) | ((with_reducible refine gate_callee (f := 85) rfl ?_); refine goesL_ (some 8) rfl rfl Tryd.func85 (by kernel_rfl) rfl #[.int .i64 a1] rfl ag_ ?_; (with_reducible refine (move_Moves.calls a1 false _ A3.out).mono ?_); rintro e w' ⟨rfl, ⟨nd, rfl⟩⟩; refine ⟨_, rfl, ?_⟩; (try (rw [drewN_self ab]; generalize hq_ : World.drewN ab _ = ab; replace j := Z (qV hq_ j.out); replace b := Z (qM hq_ b.out); replace l := Z (qM hq_ l.out); replace HB := Z (qB hq_ HB.out); clear hq_)); have cc := L.out; have ce := C.out; obtain ⟨a3, a4, a5, a6, a7, a8, bK, bL, bM, bN, bO, bP⟩ := cells6 b.out; obtain ⟨a9, ba, bb, bc, bd, be, bQ, bR, bS, bT, bU, bV⟩ := cells6 l.out))
  refine bodyPost_ret (results_ct rfl _ _ d 24 #[.int .i64 q, .int .i64 r, .slice G m.length I, .int .i64 s, .bool F, .bool u] (0, 0) _ rfl (put6 l.out) Tryd.underlying24 rfl (by kernel_rfl)) rfl ?_
  exact ⟨_, _, er_, by (with_reducible repeat apply pV); exact Kd.V_mono (f6V d (Kd.V_mono j.out (fun k_ hk => (⟨hk, hk.2⟩ : _ ∧ k_ ≠ d))) (fun _ hk => hk.2)) (fun _ hk => hk.1.1.1), Kd.R_V (Kd.R_nil _ _ _ 0 _), bl_⟩
/-! ### keys_dup: function 87 -/
def keys_dup.f (k : Nat) (d : Int) (e : Int) (i : List (S35)) (b : Int) (g : Bool) (h : Bool) : Option (Int × Int × (List (S35)) × Int × Bool × Bool × Option Er × (List (S164))) := (edit_Type.f k d e i b g h 28).bind fun a => (if a.2.2.2.2.2.2.1.isNone = true then ((field_Next.f a.1 a.2.1 a.2.2.1 a.2.2.2.1 a.2.2.2.2.1 a.2.2.2.2.2.1 b).bind fun c => (some (a.1, a.2.1, a.2.2.1, mx 0 c, a.2.2.2.2.1, a.2.2.2.2.2.1, none, ([] : List (S164))))) else (some (a.1, a.2.1, a.2.2.1, a.2.2.2.1, a.2.2.2.2.1, a.2.2.2.2.2.1, some (a.2.2.2.2.2.2.1.getD ez), a.2.2.2.2.2.2.2)))
theorem keys_dup.mono : ∀ a0 a1 a b a4 c k, LeO (keys_dup.f k a0 a1 a b a4 c) (keys_dup.f (k + 1) a0 a1 a b a4 c) := by
 intro a0 a1 a b a4 c k
 unfold keys_dup.f
 repeat' first
   | (with_reducible exact edit_Type.mono _ _ _ _ _ _ _ _)
   | (with_reducible exact LeO.refl _)
   | (with_reducible exact LeO.none _)
   | (with_reducible refine LeO.ite ?_ ?_)
   | (with_reducible refine LeO.bind ?_ (fun _ => ?_))
   | exact edit_Type.mono _ _ _ _ _ _ _ _
   | exact LeO.none _
   | refine LeO.ite ?_ ?_
   | refine LeO.bind ?_ (fun _ => ?_)
set_option maxHeartbeats 8000000 in
set_option maxRecDepth 100000 in
theorem keys_dup.calls (k : Nat) (X : Int) (Y : Int) (J : Nat → Prop) (ac : Option Addr) (ae : Nat) (K : List (S35)) (G : Int) (aa : Bool) (ab : Bool) (r1 : Int) (r2 : Int) (r3 : List (S35)) (r4 : Int) (r5 : Bool) (r6 : Bool) (r7 : Option Er) (r8 : List (S164)) (w : World) (aI : Kd.V k35 35 w w.heap.size (fun k_ => J k_) (.slice ac K.length ae) K) (h : keys_dup.f k X Y K G aa ab = some (r1, r2, r3, r4, r5, r6, r7, r8)) :
  Calls Tryd.prog 87 #[.agg #[.int .i64 X, .int .i64 Y, .slice ac K.length ae, .int .i64 G, .bool aa, .bool ab]] w fun e w' => ∃ aO aP : Value, e = .returned (.tuple #[.agg #[.int .i64 r1, .int .i64 r2, aO, .int .i64 r4, .bool r5, .bool r6], errW aP r7]) ∧ Kd.V k35 35 w' w.heap.size (fun k_ => (J k_ ∨ w.heap.size ≤ k_)) aO r3 ∧ Kd.V k164 164 w' w.heap.size (fun k_ => (J k_ ∨ w.heap.size ≤ k_)) aP r8 ∧ Below w.heap.size w w' := by
 have cJ := Tryd.underlying24
 have cK := Tryd.underlying28
 have cL := Tryd.underlying52
 have q := Z (show Kd.V k35 35 w w.heap.size (fun k_ => (J k_ ∨ w.heap.size ≤ k_)) (.slice ac K.length ae) K from Kd.V_mono aI (fun k_ hk => .inl hk))
 have HB := Z (Below.refl w.heap.size w)
 have H : ((edit_Type.f k X Y K G aa ab 28).bind fun u => (if u.2.2.2.2.2.2.1.isNone = true then ((field_Next.f u.1 u.2.1 u.2.2.1 u.2.2.2.1 u.2.2.2.2.1 u.2.2.2.2.2.1 G).bind fun L => (some (u.1, u.2.1, u.2.2.1, mx 0 L, u.2.2.2.2.1, u.2.2.2.2.2.1, none, ([] : List (S164))))) else (some (u.1, u.2.1, u.2.2.1, u.2.2.2.1, u.2.2.2.2.1, u.2.2.2.2.2.1, some (u.2.2.2.2.2.2.1.getD ez), u.2.2.2.2.2.2.2)))) = some (r1, r2, r3, r4, r5, r6, r7, r8) := h
 clear h
 replace H := Option.bind_eq_some_iff.mp H
 obtain ⟨⟨i, l, m, x, r, v, ao, aj⟩, aL, H⟩ := H
 replace H : (if ao.isNone = true then ((field_Next.f i l m x r v G).bind fun L => (some (i, l, m, mx 0 L, r, v, none, ([] : List (S164))))) else (some (i, l, m, x, r, v, some (ao.getD ez), aj))) = some (r1, r2, r3, r4, r5, r6, r7, r8) := H
 have A2 := Z aL
 clear aL
 rcases ao with _ | an
 ·have H1 : ((field_Next.f i l m x r v G).bind fun L => (some (i, l, m, mx 0 L, r, v, none, ([] : List (S164))))) = some (r1, r2, r3, r4, r5, r6, r7, r8) := by rw [if_pos (show (none : Option Er).isNone = true by rfl)] at H; exact H
  clear H
  have H := H1
  clear H1
  try simp only [errW_none, errW_some]
  replace H := Option.bind_eq_some_iff.mp H
  obtain ⟨L, aM, H⟩ := H
  replace H : (some (i, l, m, mx 0 L, r, v, none, ([] : List (S164)))) = some (r1, r2, r3, r4, r5, r6, r7, r8) := H
  have A3 := Z aM
  clear aM
  obtain ⟨ai, ah⟩ : ∃ j_ : Int, (mx 0 L) = j_ := ⟨_, rfl⟩
  replace H : (some (i, l, m, ai, r, v, none, ([] : List (S164)))) = some (r1, r2, r3, r4, r5, r6, r7, r8) := by first | (rw [ah] at H; exact H) | (simp only [ah] at H ⊢; exact H)
  (try rw [ah] at A2)
  (try rw [ah] at A3)
  (try (have cv : 0 ≤ ai := by (rw [← ah]; unfold mx; (repeat' split) <;> omega)))
  (try (have cw : 0 ≤ ai := by omega))
  have cu : (if 0 < L then L else 0) = ai := ah
  simp only [Option.some.injEq, Prod.mk.injEq] at H
  obtain ⟨rfl, rfl, rfl, rfl, rfl, rfl, rfl, rfl⟩ := H
  go_enter Tryd.func87, Tryd.ntmps87
  go_wp2_with (first | ((with_reducible refine gate_dst (N := 1) rfl ?_); refine bx_ 1 24 #[.int .i64 X, .int .i64 Y, .slice ac K.length ae, .int .i64 G, .bool aa, .bool ab] ?_; intro z hg w5 hbox hb; replace q := Z (ve q.out hg hb); have b := Z (hbox); have aF := Z (ln_ hg : w.heap.size ≤ z); have aC := Z (ln_ hg : w.heap.size ≤ z); replace HB := Z (below_step bl_ hb); clear hb hbox hg) | ((with_reducible refine gate_dst (N := 2) rfl ?_); refine bx_ 2 24 #[.int .i64 0, .int .i64 0, .slice none 0 0, .int .i64 0, .bool false, .bool false] ?_; intro d hg w6 hbox hb; replace q := Z (ve q.out hg hb); have j := Z (hbox); have aG := Z (ln_ hg : w.heap.size ≤ d); have aD := Z (ln_ hg : w.heap.size ≤ d); replace HB := Z (below_step bl_ hb); have S := Z (nl b.out hg); have T := Z (ng b.out hg); replace b := Z (kb b.out hb); clear hb hbox hg; have cH := S.out; have cI := T.out; obtain ⟨ch, ci, cj, ck, cl, cm, cn, co, cp, cq, cr, ct⟩ := cells6 b.out) | ((with_reducible refine gate_callee (f := 31) rfl ?_); refine goesL_ (some 8) rfl rfl Tryd.func31 (by kernel_rfl) rfl #[.agg #[.int .i64 X, .int .i64 Y, .slice ac K.length ae, .int .i64 G, .bool aa, .bool ab], .int .u8 28] rfl ag_ ?_; (with_reducible refine (edit_Type.calls k X Y (fun k_ => (((J k_ ∨ w.heap.size ≤ k_) ∧ k_ ≠ z) ∧ k_ ≠ d)) _ _ K G aa ab 28 i l m x r v none aj _ ?side1 A2.out).mono ?_); (case side1 => exact q.out); rintro e w9 ⟨aJ, aK, rfl, ap, aq, hb⟩; refine ⟨_, rfl, ?_⟩; replace q := Z (vb q.out hb); have y := Z (Kd.V_lower (Kd.V_mono (ok' := fun k_ => (J k_ ∨ w.heap.size ≤ k_) ∧ k_ ≠ z ∧ k_ ≠ d) ap (fun k_ hk_ => hk_.elim (fun hs_ => ⟨hs_.1.1, hs_.1.2, hs_.2⟩) (fun hn_ => ⟨(ir_ hn_), (fb b.out k_ hn_), (fb j.out k_ hn_)⟩))) (below_size bl_)); have F := Z (Kd.V_lower (Kd.V_mono (ok' := fun k_ => (J k_ ∨ w.heap.size ≤ k_) ∧ k_ ≠ z ∧ k_ ≠ d) aq (fun k_ hk_ => hk_.elim (fun hs_ => ⟨hs_.1.1, hs_.1.2, hs_.2⟩) (fun hn_ => ⟨(ir_ hn_), (fb b.out k_ hn_), (fb j.out k_ hn_)⟩))) (below_size bl_)); replace b := Z (kb b.out hb); replace j := Z (kb j.out hb); replace HB := Z (below_step bl_ hb); (try clear hb); (try clear aN); (try clear hk); (try clear hi); (try clear ap); (try clear aq); (try simp only [errW_none, errW_some])) | ((with_reducible refine gate_dst (N := 4) rfl ?_); refine bx_ 4 24 #[.int .i64 0, .int .i64 0, .slice none 0 0, .int .i64 0, .bool false, .bool false] ?_; intro a hg cM hbox hb; replace q := Z (ve q.out hg hb); replace y := Z (ve y.out hg hb); replace F := Z (ve F.out hg hb); have Q := Z (hbox); have aH := Z (ln_ hg : w.heap.size ≤ a); have aE := Z (ln_ hg : w.heap.size ≤ a); replace HB := Z (below_step bl_ hb); have M := Z (nl b.out hg); have U := Z (ng b.out hg); replace b := Z (kb b.out hb); have s := Z (nl j.out hg); have W := Z (ng j.out hg); replace j := Z (kb j.out hb); clear hb hbox hg; have cx := U.out; have cC := M.out; have cy := W.out; have cD := s.out; obtain ⟨aT, aU, aV, aW, aX, aY, bA, bB, bC, bD, bE, bF⟩ := cells6 Q.out; obtain ⟨P, O, aR⟩ := Kd.V_slice y.out; subst aR; obtain ⟨aZ, a0, a1, a2, a3, a4, bG, bH, bI, bJ, bK, bL⟩ := cells6 b.out) | ((with_reducible refine gate_callee (f := 67) rfl ?_); refine goesL_ (some 18) rfl rfl Tryd.func67 (by kernel_rfl) rfl #[.agg #[.int .i64 i, .int .i64 l, .slice P m.length O, .int .i64 x, .bool r, .bool v], .int .i64 G] rfl ag_ ?_; (with_reducible refine (field_Next.calls i l _ _ m x r v G L _ ?side1 ?side2 A3.out).mono ?_); (case side1 => refine (Kd.V_reads' (e := 35) (base := w.heap.size) (ok := fun k_ => ((((J k_ ∨ w.heap.size ≤ k_)) ∧ (k_ ≠ z ∧ k_ ≠ d)) ∧ k_ ≠ a)) (n := m.length) (c := O) ?_).2.2; exact (by (with_reducible repeat apply pV); exact (Kd.V_mono (f6V a (Kd.V_mono y.out (fun k_ hk => (⟨hk, hk.2⟩ : _ ∧ k_ ≠ a))) (fun _ hk => hk.2)) (fun _ h_ => h_.1)))); (case side2 => exact (Kd.V_reads' y.out).2.1); rintro e cN ⟨rfl, hb⟩; refine ⟨_, rfl, ?_⟩; replace q := Z (Kd.V_below (by (with_reducible repeat apply pV); exact (Kd.V_mono (f6V a (Kd.V_mono q.out (fun k_ hk => (⟨hk, hk.2⟩ : _ ∧ k_ ≠ a))) (fun _ hk => hk.2)) (fun _ h_ => h_.1))) hb); replace y := Z (Kd.V_below (by (with_reducible repeat apply pV); exact (Kd.V_mono (f6V a (Kd.V_mono y.out (fun k_ hk => (⟨hk, hk.2⟩ : _ ∧ k_ ≠ a))) (fun _ hk => hk.2)) (fun _ h_ => h_.1))) hb); replace F := Z (Kd.V_below (by (with_reducible repeat apply pV); exact (Kd.V_mono (f6V a (Kd.V_mono F.out (fun k_ hk => (⟨hk, hk.2⟩ : _ ∧ k_ ≠ a))) (fun _ hk => hk.2)) (fun _ h_ => h_.1))) hb); replace b := Z (blk_below (g := z) (o := .cells #[.int .i64 X, .int .i64 Y, .slice ac K.length ae, .int .i64 G, .bool aa, .bool ab] 24 (0, 0)) (blk_off b.out M.out off2_) hb); replace j := Z (blk_below (g := d) (o := .cells #[.int .i64 0, .int .i64 0, .slice none 0 0, .int .i64 0, .bool false, .bool false] 24 (0, 0)) (blk_off j.out s.out off2_) hb); replace Q := Z (blk_below (g := a) (o := .cells #[.int .i64 i, .int .i64 l, .slice P m.length O, .int .i64 x, .bool r, .bool v] 24 (0, 0)) (put6 Q.out) hb); replace HB := Z (below_step bl_ hb); (try clear hb); (try clear aN); (try clear hk); (try clear hi); obtain ⟨a5, a6, a7, a8, a9, ba, bM, bN, bO, bP, bQ, bR⟩ := cells6 Q.out; obtain ⟨bb, bc, bd, be, bf, bg, bS, bT, bU, bV, bW, bX⟩ := cells6 j.out))
  refine bodyPost_ret (results_ct rfl _ _ d 24 #[.int .i64 i, .int .i64 l, .slice P m.length O, .int .i64 ai, .bool r, .bool v] (0, 0) _ rfl (by (with_reducible repeat apply pK); refine blk_put (cs := #[.int .i64 i, .int .i64 l, .slice P m.length O, .int .i64 ai, .bool r, .bool false]) ?_ 5 _ rfl; (with_reducible repeat apply pK); refine blk_put (cs := #[.int .i64 i, .int .i64 l, .slice P m.length O, .int .i64 ai, .bool false, .bool false]) ?_ 4 _ rfl; (with_reducible repeat apply pK); refine blk_put (cs := #[.int .i64 i, .int .i64 l, .slice P m.length O, .int .i64 0, .bool false, .bool false]) ?_ 3 _ rfl; (with_reducible repeat apply pK); refine blk_put (cs := #[.int .i64 i, .int .i64 l, .slice none 0 0, .int .i64 0, .bool false, .bool false]) ?_ 2 _ rfl; (with_reducible repeat apply pK); refine blk_put (cs := #[.int .i64 i, .int .i64 0, .slice none 0 0, .int .i64 0, .bool false, .bool false]) ?_ 1 _ rfl; (with_reducible repeat apply pK); refine blk_put (cs := #[.int .i64 0, .int .i64 0, .slice none 0 0, .int .i64 0, .bool false, .bool false]) ?_ 0 _ rfl; (with_reducible repeat apply pK); refine blk_far ?_ s.out _; (with_reducible repeat apply pK); exact j.out) Tryd.underlying24 rfl (by kernel_rfl)) rfl ?_
  exact ⟨_, _, by first | rfl | (simp [errW_none, errW_some] <;> rfl) | (simp only [← ah]; first | rfl | (simp [errW_none, errW_some] <;> rfl)) | (simp [*, errW_none, errW_some] <;> rfl), by (with_reducible repeat apply pV); exact Kd.V_mono (f6V d (Kd.V_far (p := ⟨a, 3, none⟩) (Kd.V_mono (Kd.V_mono y.out (fun k_ hk => (⟨hk, hk.2⟩ : _ ∧ k_ ≠ a))) (fun k_ hk => (⟨hk, hk.1.1.2.2⟩ : _ ∧ k_ ≠ d))) (fun _ hk => hk.1.2) (.int .i64 ai)) (fun _ hk => hk.2)) (fun _ hk => hk.1.1.1.1), Kd.R_V (Kd.R_nil _ _ _ 0 _), bl_⟩
 ·have H1 : (some (i, l, m, x, r, v, some an, aj)) = some (r1, r2, r3, r4, r5, r6, r7, r8) := by rw [if_neg (show ¬ (some an).isNone = true by simp)] at H; exact H
  clear H
  have H := H1
  clear H1
  try simp only [errW_none, errW_some]
  simp only [Option.some.injEq, Prod.mk.injEq] at H
  obtain ⟨rfl, rfl, rfl, rfl, rfl, rfl, rfl, rfl⟩ := H
  go_enter Tryd.func87, Tryd.ntmps87
  go_wp2_with (first | ((with_reducible refine gate_dst (N := 1) rfl ?_); refine bx_ 1 24 #[.int .i64 X, .int .i64 Y, .slice ac K.length ae, .int .i64 G, .bool aa, .bool ab] ?_; intro z hg cO hbox hb; replace q := Z (ve q.out hg hb); have b := Z (hbox); have aF := Z (ln_ hg : w.heap.size ≤ z); have aC := Z (ln_ hg : w.heap.size ≤ z); replace HB := Z (below_step bl_ hb); clear hb hbox hg) | ((with_reducible refine gate_dst (N := 2) rfl ?_); refine bx_ 2 24 #[.int .i64 0, .int .i64 0, .slice none 0 0, .int .i64 0, .bool false, .bool false] ?_; intro d hg cP hbox hb; replace q := Z (ve q.out hg hb); have j := Z (hbox); have aG := Z (ln_ hg : w.heap.size ≤ d); have aD := Z (ln_ hg : w.heap.size ≤ d); replace HB := Z (below_step bl_ hb); have S := Z (nl b.out hg); have T := Z (ng b.out hg); replace b := Z (kb b.out hb); clear hb hbox hg; have cz := S.out; have cE := T.out; obtain ⟨bh, bi, bj, bk, bl, bm, bY, bZ, b0, b1, b2, b3⟩ := cells6 b.out) | ((with_reducible refine gate_callee (f := 31) rfl ?_); refine goesL_ (some 8) rfl rfl Tryd.func31 (by kernel_rfl) rfl #[.agg #[.int .i64 X, .int .i64 Y, .slice ac K.length ae, .int .i64 G, .bool aa, .bool ab], .int .u8 28] rfl ag_ ?_; (with_reducible refine (edit_Type.calls k X Y (fun k_ => (((J k_ ∨ w.heap.size ≤ k_) ∧ k_ ≠ z) ∧ k_ ≠ d)) _ _ K G aa ab 28 i l m x r v (some an) aj _ ?side1 A2.out).mono ?_); (case side1 => exact q.out); rintro e cQ ⟨aJ, aK, rfl, ap, aq, hb⟩; refine ⟨_, rfl, ?_⟩; replace q := Z (vb q.out hb); have y := Z (Kd.V_lower (Kd.V_mono (ok' := fun k_ => (J k_ ∨ w.heap.size ≤ k_) ∧ k_ ≠ z ∧ k_ ≠ d) ap (fun k_ hk_ => hk_.elim (fun hs_ => ⟨hs_.1.1, hs_.1.2, hs_.2⟩) (fun hn_ => ⟨(ir_ hn_), (fb b.out k_ hn_), (fb j.out k_ hn_)⟩))) (below_size bl_)); have F := Z (Kd.V_lower (Kd.V_mono (ok' := fun k_ => (J k_ ∨ w.heap.size ≤ k_) ∧ k_ ≠ z ∧ k_ ≠ d) aq (fun k_ hk_ => hk_.elim (fun hs_ => ⟨hs_.1.1, hs_.1.2, hs_.2⟩) (fun hn_ => ⟨(ir_ hn_), (fb b.out k_ hn_), (fb j.out k_ hn_)⟩))) (below_size bl_)); replace b := Z (kb b.out hb); replace j := Z (kb j.out hb); replace HB := Z (below_step bl_ hb); (try clear hb); (try clear aN); (try clear hk); (try clear hi); (try clear ap); (try clear aq); (try simp only [errW_none, errW_some])) | ((with_reducible refine gate_dst (N := 4) rfl ?_); refine bx_ 4 24 #[.int .i64 0, .int .i64 0, .slice none 0 0, .int .i64 0, .bool false, .bool false] ?_; intro a hg cR hbox hb; replace q := Z (ve q.out hg hb); replace y := Z (ve y.out hg hb); replace F := Z (ve F.out hg hb); have Q := Z (hbox); have aH := Z (ln_ hg : w.heap.size ≤ a); have aE := Z (ln_ hg : w.heap.size ≤ a); replace HB := Z (below_step bl_ hb); have M := Z (nl b.out hg); have U := Z (ng b.out hg); replace b := Z (kb b.out hb); have s := Z (nl j.out hg); have W := Z (ng j.out hg); replace j := Z (kb j.out hb); clear hb hbox hg; have cA := U.out; have cF := M.out; have cB := W.out; have cG := s.out; obtain ⟨bn, bo, bp, bq, br, bs, b4, b5, b6, b7, b8, b9⟩ := cells6 Q.out; obtain ⟨ad, af, aS⟩ := Kd.V_slice y.out; subst aS; obtain ⟨bt, bu, bv, bw, bx, bz, ca, cb, cc, cd, ce, cf⟩ := cells6 j.out))
  refine bodyPost_ret (results_ct rfl _ _ d 24 #[.int .i64 i, .int .i64 l, .slice ad m.length af, .int .i64 x, .bool r, .bool v] (0, 0) _ rfl (by (with_reducible repeat apply pK); refine blk_put (cs := #[.int .i64 i, .int .i64 l, .slice ad m.length af, .int .i64 x, .bool r, .bool false]) ?_ 5 _ rfl; (with_reducible repeat apply pK); refine blk_put (cs := #[.int .i64 i, .int .i64 l, .slice ad m.length af, .int .i64 x, .bool false, .bool false]) ?_ 4 _ rfl; (with_reducible repeat apply pK); refine blk_put (cs := #[.int .i64 i, .int .i64 l, .slice ad m.length af, .int .i64 0, .bool false, .bool false]) ?_ 3 _ rfl; (with_reducible repeat apply pK); refine blk_put (cs := #[.int .i64 i, .int .i64 l, .slice none 0 0, .int .i64 0, .bool false, .bool false]) ?_ 2 _ rfl; (with_reducible repeat apply pK); refine blk_put (cs := #[.int .i64 i, .int .i64 0, .slice none 0 0, .int .i64 0, .bool false, .bool false]) ?_ 1 _ rfl; (with_reducible repeat apply pK); refine blk_put (cs := #[.int .i64 0, .int .i64 0, .slice none 0 0, .int .i64 0, .bool false, .bool false]) ?_ 0 _ rfl; (with_reducible repeat apply pK); refine blk_far ?_ s.out _; (with_reducible repeat apply pK); refine blk_far ?_ s.out _; (with_reducible repeat apply pK); refine blk_far ?_ s.out _; (with_reducible repeat apply pK); refine blk_far ?_ s.out _; (with_reducible repeat apply pK); refine blk_far ?_ s.out _; (with_reducible repeat apply pK); refine blk_far ?_ s.out _; (with_reducible repeat apply pK); exact j.out) Tryd.underlying24 rfl (by kernel_rfl)) rfl ?_
  exact ⟨_, _, er_, by (with_reducible repeat apply pV); exact Kd.V_mono (f6V d (f6V a (Kd.V_mono (Kd.V_mono y.out (fun k_ hk => (⟨hk, hk.2⟩ : _ ∧ k_ ≠ a))) (fun k_ hk => (⟨hk, hk.1.1.2.2⟩ : _ ∧ k_ ≠ d))) (fun _ hk => hk.1.2)) (fun _ hk => hk.2)) (fun _ hk => hk.1.1.1.1), by (with_reducible repeat apply pV); exact Kd.V_mono (f6V d (f6V a (Kd.V_mono (Kd.V_mono F.out (fun k_ hk => (⟨hk, hk.2⟩ : _ ∧ k_ ≠ a))) (fun k_ hk => (⟨hk, hk.1.1.2.2⟩ : _ ∧ k_ ≠ d))) (fun _ hk => hk.1.2)) (fun _ hk => hk.2)) (fun _ hk => hk.1.1.1.1), bl_⟩
end Go.Proofs.YtggecanpjkpkiaaDoor.P
