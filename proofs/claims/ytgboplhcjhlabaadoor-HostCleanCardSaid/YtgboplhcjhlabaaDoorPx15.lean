/- pp.py and press2.py (wip/tools) wrote this text. -/
import Derived.Test.YtgboplhcjhlabaaDoorPx0
import Derived.Test.YtgboplhcjhlabaaDoorPxS
import Derived.Test.YtgboplhcjhlabaaDoorPx14
namespace Go.Proofs.YtgboplhcjhlabaaDoor.P
open Go.RowKit Go.Proofs.YtgboplhcjhlabaaDoorW.PrintWords Go.Proofs.YtgboplhcjhlabaaDoorW.PrintLast Go.Proofs.YtgboplhcjhlabaaDoorW.PrintMore
attribute [local go_sem] max2_int min2_int max_two min_two max_three min_three max_four min_four
attribute [local go_sem] Instr.field asAgg
set_option linter.unusedVariables false
set_option linter.unusedSimpArgs false

/-! ### shutterref11_Next: function 32 -/
def shutterref11_Next.l0 : Nat → Int → Int → Int → Int → List (S44) → Int → Bool → Bool → Option (Int)
 | 0, _, _, _, _, _, _, _, _ => none
 | k + 1, l, j, b, c, a, d, e, g => if j ≤ (a.length : Int) then ((shutterref11_mod.f k (wrap64 (l + j)) (a.length : Int)).bind fun i => ((shutterref11_first.f k b c a d e g i).bind fun h => (if h ≥ 0 then (some h) else (shutterref11_Next.l0 k l (wrap64 (j + 1)) b c a d e g)))) else (some (-1))
def shutterref11_Next.f (k : Nat) (a : Int) (b : Int) (g : List (S44)) (c : Int) (d : Bool) (e : Bool) (a1 : Int) : Option (Int) := shutterref11_Next.l0 k a1 1 a b g c d e
theorem shutterref11_Next.mono_l : ∀ k, (∀ b c d e f g i j, LeO (shutterref11_Next.l0 k b c d e f g i j) (shutterref11_Next.l0 (k + 1) b c d e f g i j))
 | 0 => fun _ _ _ _ _ _ _ _ r h => by simp [shutterref11_Next.l0] at h
 | k + 1 => by
  have a := shutterref11_Next.mono_l k
  ·intro b c d e f g i j
   unfold shutterref11_Next.l0
   repeat' first
   | (with_reducible exact a _ _ _ _ _ _ _ _)
   | (with_reducible exact shutterref11_first.mono _ _ _ _ _ _ _ _)
   | (with_reducible exact shutterref11_mod.mono _ _ _)
   | (with_reducible exact LeO.refl _)
   | (with_reducible exact LeO.none _)
   | (with_reducible refine LeO.ite ?_ ?_)
   | (with_reducible refine LeO.bind ?_ (fun _ => ?_))
   | exact a _ _ _ _ _ _ _ _
   | exact shutterref11_first.mono _ _ _ _ _ _ _ _
   | exact shutterref11_mod.mono _ _ _
   | exact LeO.none _
   | refine LeO.ite ?_ ?_
   | refine LeO.bind ?_ (fun _ => ?_)
theorem shutterref11_Next.mono : ∀ a0 a1 b c a4 d e k, LeO (shutterref11_Next.f k a0 a1 b c a4 d e) (shutterref11_Next.f (k + 1) a0 a1 b c a4 d e) := by
 intro a0 a1 b c a4 d e k
 have a := shutterref11_Next.mono_l k
 unfold shutterref11_Next.f
 repeat' first
   | (with_reducible exact a _ _ _ _ _ _ _ _)
   | (with_reducible exact shutterref11_first.mono _ _ _ _ _ _ _ _)
   | (with_reducible exact shutterref11_mod.mono _ _ _)
   | (with_reducible exact LeO.refl _)
   | (with_reducible exact LeO.none _)
   | (with_reducible refine LeO.ite ?_ ?_)
   | (with_reducible refine LeO.bind ?_ (fun _ => ?_))
   | exact a _ _ _ _ _ _ _ _
   | exact shutterref11_first.mono _ _ _ _ _ _ _ _
   | exact shutterref11_mod.mono _ _ _
   | exact LeO.none _
   | refine LeO.ite ?_ ?_
   | refine LeO.bind ?_ (fun _ => ?_)
def shutterref11_Next.T4 : Bool × List (List Nat × List Nat) := (true, [([], []), ([], []), ([], []), ([1, 2], [1, 2]), ([], []), ([4], [4]), ([5], [5]), ([3, 6], [3, 6]), ([0, 7, 7], [0, 7]), ([8, 8, 0, 1, 2, 3, 4, 5, 6, 7, 8], [8])])
def shutterref11_Next.B4 : List Nat := [0, 0, 0, 6, 0, 16, 48, 126, 255, 511]
theorem shutterref11_Next.tab4 : rtab .any (opsOf Tryd.f32 4) = shutterref11_Next.T4 := by kernel_rfl
theorem shutterref11_Next.bits4 : waitsOk shutterref11_Next.T4.2 shutterref11_Next.B4 = true := by kernel_rfl
set_option maxHeartbeats 8000000 in
set_option maxRecDepth 100000 in
theorem shutterref11_Next.calls (k : Nat) (d : Int) (g : Int) (u : Option Addr) (x : Nat) (b : List (S44)) (j : Int) (l : Bool) (m : Bool) (a1 : Int) (r : Int) (w : World) (D : Kd.C k44 w u b.length b) (B : b.length ≤ x) (h : shutterref11_Next.f k d g b j l m a1 = some r) :
  Calls Tryd.prog 32 #[.agg #[.int .i64 d, .int .i64 g, .slice u b.length x, .int .i64 j, .bool l, .bool m], .int .i64 a1] w fun e w' => e = .returned (.int .i64 r) ∧ Below w.heap.size w w' := by
 have aN := Tryd.underlying24
 have A := Z D
 have z := Z B
 clear D B
 have HB := Z (Below.refl w.heap.size w)
 have H : (shutterref11_Next.l0 k a1 1 d g b j l m) = some r := h
 clear h
 have H' := Z H
 clear H
 go_enter Tryd.func32, Tryd.ntmps32
 go_wp2_with (first | ((with_reducible refine gate_dst (N := 2) rfl ?_); refine bx_ 2 24 #[.int .i64 d, .int .i64 g, .slice u b.length x, .int .i64 j, .bool l, .bool m] ?_; intro c hg w3 hbox hb; have a := Z (hbox); have aM := Z (ln_ hg : w.heap.size ≤ c); have aL := Z (ln_ hg : w.heap.size ≤ c); replace HB := Z (below_step bl_ hb); clear hb hbox hg))
 go_loopg [5] k (fun kq v5 w' => ∃ (o : Int), v5 = .int .i64 o ∧ Aside0 (shutterref11_Next.l0 kq a1 o d g b j l m = some r) ∧ Aside0 (kq ≤ k) ∧ Aside0 (w'.heap[c]? = some (.cells #[.int .i64 d, .int .i64 g, (.slice u b.length x), .int .i64 j, .bool l, .bool m] 24 (0, 0))) ∧ Aside0 (Below w.heap.size w w'))
 case atStart => exact ⟨(1), (dn_), H', ⟨Nat.le_refl _⟩, ⟨vK a.out⟩, ⟨bl_⟩⟩
 case round =>
  clear H'
  try clear p2
  try clear c3
  obtain ⟨o, rfl, HA, G, a, HB⟩ := hrel
  cases gk with
  | zero => exact absurd HA.out (by simp [shutterref11_Next.l0])
  | succ k1 =>
   have H := HA.out
   clear HA
   simp only [shutterref11_Next.l0] at H
   by_cases c4 : o ≤ (b.length : Int)
   ·rw [if_pos c4] at H
    have L : decide (o ≤ (b.length : Int)) = true := decide_eq_true c4
    clear c4
    replace H := Option.bind_eq_some_iff.mp H
    obtain ⟨y, E, H⟩ := H
    replace H : ((shutterref11_first.f k1 d g b j l m y).bind fun s => (if s ≥ 0 then (some s) else (shutterref11_Next.l0 k1 a1 (wrap64 (o + 1)) d g b j l m))) = some r := H
    have A5 := Z E
    clear E
    replace H := Option.bind_eq_some_iff.mp H
    obtain ⟨s, F, H⟩ := H
    replace H : (if s ≥ 0 then (some s) else (shutterref11_Next.l0 k1 a1 (wrap64 (o + 1)) d g b j l m)) = some r := H
    have A6 := Z F
    clear F
    by_cases c7 : s ≥ 0
    ·rw [if_pos c7] at H
     have M : decide (0 ≤ s) = true := decide_eq_true c7
     clear c7
     obtain rfl := Option.some.inj H
     obtain ⟨az, aA, aB, aC, aD, aE, aF, aG, aH, aI, aJ, aK⟩ := cells6 a.out
     try go_wp2
     have p := Z (blk_drew a.out)
     have q := Z (below_drew1 HB.out)
     clear a
     clear HB
     have a := p
     have HB := q
     clear p q
     refine start_ (n := 10) (S := fun w' => w'.cell? ⟨c, 0, none⟩ = some (.int .i64 d) ∧ w'.cell? ⟨c, 1, none⟩ = some (.int .i64 g) ∧ w'.cell? ⟨c, 2, none⟩ = some (.slice u b.length x) ∧ w'.cell? ⟨c, 3, none⟩ = some (.int .i64 j) ∧ w'.cell? ⟨c, 4, none⟩ = some (.bool l) ∧ w'.cell? ⟨c, 5, none⟩ = some (.bool m)) (ds := []) (bv 10 0) (by kernel_rfl) rfl rfl ⟨(blk_cell a.out 0).trans rfl, (blk_cell a.out 1).trans rfl, (blk_cell a.out 2).trans rfl, (blk_cell a.out 3).trans rfl, (blk_cell a.out 4).trans rfl, (blk_cell a.out 5).trans rfl⟩ (fun hHeld => ?_); refine with_tabW shutterref11_Next.tab4 shutterref11_Next.bits4 (fun HT_ HW_ => ?_)
     generalize wr.drew = w9 at a HB hHeld ⊢
     refine pure_ (i := 1) (N := some 15) (v := ?_) (a' := ?_) (bv 10 2) rfl rfl (any_of HT_.out (by kernel_rfl)) (fun _ _ _ h => h) (Or.inl ⟨by rfl, ?_⟩) ?_ ?_
     rotate_left
     ·intro w'
      go_simp
      with_reducible rfl
     rotate_left
     ·simp only [Act.put, sA, sB, sC, i64_w, i32_w]
      rfl
     refine pure_ (i := 2) (N := some 16) (v := ?_) (a' := ?_) (bv 10 6) rfl rfl (any_of HT_.out (by kernel_rfl)) (fun _ _ _ h => h) (Or.inl ⟨by rfl, ?_⟩) ?_ ?_
     rotate_left
     ·intro w'
      go_simp
      with_reducible rfl
     rotate_left
     ·simp only [Act.put, sA, sB, sC, i64_w, i32_w]
      rfl
     refine pure_ (i := 3) (N := some 17) (v := ?_) (a' := ?_) (bv 10 14) rfl rfl (any_of HT_.out (by kernel_rfl)) (fun _ _ _ h => h) (Or.inl ⟨by rfl, ?_⟩) ?_ ?_
     rotate_left
     ·intro w'
      go_simp
      with_reducible rfl
     rotate_left
     ·simp only [Act.put, sA, sB, sC, i64_w, i32_w]
      rfl
     refine pure_ (i := 4) (N := some 18) (v := ?_) (a' := ?_) (bv 10 30) rfl rfl (any_of HT_.out (by kernel_rfl)) (fun _ _ _ h => h) (Or.inl ⟨by rfl, ?_⟩) ?_ ?_
     rotate_left
     ·intro w'
      go_simp
      with_reducible rfl
     rotate_left
     ·simp only [Act.put, sA, sB, sC, i64_w, i32_w]
      rfl
     refine take_ (i := 0) (N := some 14) (v := ?_) (a' := ?_) (bv 10 31) rfl rfl (take_ofW HT_.out HW_.out (by kernel_rfl)) (fun _ _ _ h => h) (Or.inl ⟨by rfl, ?_⟩) hHeld ?_ ?_
     rotate_left
     ·rintro w' ⟨O, P, Q, R, T, U⟩
      go_simp
      with_reducible rfl
     rotate_left
     ·simp only [Act.put, sA, sB, sC, i64_w, i32_w]
      rfl
     refine take_ (i := 5) (N := some 19) (v := ?_) (a' := ?_) (bv 10 63) rfl rfl (take_ofW HT_.out HW_.out (by kernel_rfl)) (fun _ _ _ h => h) (Or.inl ⟨by rfl, ?_⟩) hHeld ?_ ?_
     rotate_left
     ·rintro w' ⟨O, P, Q, R, T, U⟩
      go_simp
      with_reducible rfl
     rotate_left
     ·simp only [Act.put, sA, sB, sC, i64_w, i32_w]
      rfl
     refine pure_ (i := 6) (N := some 20) (v := ?_) (a' := ?_) (bv 10 127) rfl rfl (any_of HT_.out (by kernel_rfl)) (fun _ _ _ h => h) (Or.inl ⟨by rfl, ?_⟩) ?_ ?_
     rotate_left
     ·intro w'
      go_simp
      with_reducible rfl
     rotate_left
     ·simp only [Act.put, sA, sB, sC, i64_w, i32_w]
      rfl
     refine one_ (i := 7) (N := some 21) (bv 10 255) rfl rfl (one_of HT_.out (by kernel_rfl)) (by decide) (fun K hK => ?_)
     refine goes_ Tryd.func52 (by kernel_rfl) rfl #[.int .i64 (wrap64 (a1 + o)), .int .i64 (b.length : Int)] (by rfl) rfl rfl ag_ ?_
     with_reducible refine (shutterref11_mod.calls k1 (wrap64 (a1 + o)) (b.length : Int) y _ A5.out).mono ?_
     rintro e w' ⟨rfl, ⟨nd, rfl⟩⟩
     refine ⟨_, rfl, ?_⟩
     refine hK.out _ _ ⟨(blk_cell a.out 0).trans rfl, (blk_cell a.out 1).trans rfl, (blk_cell a.out 2).trans rfl, (blk_cell a.out 3).trans rfl, (blk_cell a.out 4).trans rfl, (blk_cell a.out 5).trans rfl⟩ (fun hHeld => ?_)
     clear hK K
     refine norm_ (a' := ?_) ?_ ?_
     rotate_left
     ·show Act.put _ (some 21) _ = _
      simp only [Act.put, sA, sB, sC, i64_w, i32_w]
      rfl
     refine one_ (i := 8) (N := some 22) (bv 10 511) rfl rfl (one_of HT_.out (by kernel_rfl)) (by decide) (fun K hK => ?_)
     refine goes_ Tryd.func51 (by kernel_rfl) rfl #[.agg #[.int .i64 d, .int .i64 g, .slice u b.length x, .int .i64 j, .bool l, .bool m], .int .i64 y] (by rfl) rfl rfl ag_ ?_
     with_reducible refine (shutterref11_first.calls k1 d g _ _ b j l m y s _ ?side1 ?side2 A6.out).mono ?_
     (case side1 => repeat (first | exact (Kd.C_below A.out bl_) | (with_reducible apply pC)))
     (case side2 => exact z.out)
     rintro e aP ⟨rfl, hb⟩
     refine ⟨_, rfl, ?_⟩
     have p := Z (kb a.out hb)
     have q := Z (below_step bl_ hb)
     clear a
     clear HB
     have a := p
     have HB := q
     clear p q
     (try clear hb)
     (try clear ay)
     (try clear hk)
     (try clear hi)
     refine hK.out _ _ ⟨(blk_cell a.out 0).trans rfl, (blk_cell a.out 1).trans rfl, (blk_cell a.out 2).trans rfl, (blk_cell a.out 3).trans rfl, (blk_cell a.out 4).trans rfl, (blk_cell a.out 5).trans rfl⟩ (fun hHeld => ?_)
     clear hK K
     refine norm_ (a' := ?_) ?_ ?_
     rotate_left
     ·show Act.put _ (some 22) _ = _
      simp only [Act.put, sA, sB, sC, i64_w, i32_w]
      rfl
     refine pure_ (i := 9) (N := some 6) (v := ?_) (a' := ?_) (bv 10 1023) rfl rfl (any_of HT_.out (by kernel_rfl)) (fun _ _ _ h => h) (Or.inl ⟨by rfl, ?_⟩) ?_ ?_
     rotate_left
     ·intro w'
      go_simp
      with_reducible rfl
     rotate_left
     ·simp only [Act.put, sA, sB, sC, i64_w, i32_w]
      rfl
     refine done_ (done_of HT_.out (by kernel_rfl)) ?_
     try go_wp2
     go_ret
     exact ⟨er_, bl_⟩
    ·rw [if_neg c7] at H
     have M : decide (0 ≤ s) = false := decide_eq_false c7
     clear c7
     have H' := Z H
     clear H
     obtain ⟨V, W, X, Y, aa, ab, ai, aj, ak, al, am, an⟩ := cells6 a.out
     try go_wp2
     have p := Z (blk_drew a.out)
     have q := Z (below_drew1 HB.out)
     clear a
     clear HB
     have a := p
     have HB := q
     clear p q
     refine start_ (n := 10) (S := fun w' => w'.cell? ⟨c, 0, none⟩ = some (.int .i64 d) ∧ w'.cell? ⟨c, 1, none⟩ = some (.int .i64 g) ∧ w'.cell? ⟨c, 2, none⟩ = some (.slice u b.length x) ∧ w'.cell? ⟨c, 3, none⟩ = some (.int .i64 j) ∧ w'.cell? ⟨c, 4, none⟩ = some (.bool l) ∧ w'.cell? ⟨c, 5, none⟩ = some (.bool m)) (ds := []) (bv 10 0) (by kernel_rfl) rfl rfl ⟨(blk_cell a.out 0).trans rfl, (blk_cell a.out 1).trans rfl, (blk_cell a.out 2).trans rfl, (blk_cell a.out 3).trans rfl, (blk_cell a.out 4).trans rfl, (blk_cell a.out 5).trans rfl⟩ (fun hHeld => ?_); refine with_tabW shutterref11_Next.tab4 shutterref11_Next.bits4 (fun HT_ HW_ => ?_)
     generalize wr.drew = aQ at a HB hHeld ⊢
     refine pure_ (i := 1) (N := some 15) (v := ?_) (a' := ?_) (bv 10 2) rfl rfl (any_of HT_.out (by kernel_rfl)) (fun _ _ _ h => h) (Or.inl ⟨by rfl, ?_⟩) ?_ ?_
     rotate_left
     ·intro w'
      go_simp
      with_reducible rfl
     rotate_left
     ·simp only [Act.put, sA, sB, sC, i64_w, i32_w]
      rfl
     refine pure_ (i := 2) (N := some 16) (v := ?_) (a' := ?_) (bv 10 6) rfl rfl (any_of HT_.out (by kernel_rfl)) (fun _ _ _ h => h) (Or.inl ⟨by rfl, ?_⟩) ?_ ?_
     rotate_left
     ·intro w'
      go_simp
      with_reducible rfl
     rotate_left
     ·simp only [Act.put, sA, sB, sC, i64_w, i32_w]
      rfl
     refine pure_ (i := 3) (N := some 17) (v := ?_) (a' := ?_) (bv 10 14) rfl rfl (any_of HT_.out (by kernel_rfl)) (fun _ _ _ h => h) (Or.inl ⟨by rfl, ?_⟩) ?_ ?_
     rotate_left
     ·intro w'
      go_simp
      with_reducible rfl
     rotate_left
     ·simp only [Act.put, sA, sB, sC, i64_w, i32_w]
      rfl
     refine pure_ (i := 4) (N := some 18) (v := ?_) (a' := ?_) (bv 10 30) rfl rfl (any_of HT_.out (by kernel_rfl)) (fun _ _ _ h => h) (Or.inl ⟨by rfl, ?_⟩) ?_ ?_
     rotate_left
     ·intro w'
      go_simp
      with_reducible rfl
     rotate_left
     ·simp only [Act.put, sA, sB, sC, i64_w, i32_w]
      rfl
     refine take_ (i := 0) (N := some 14) (v := ?_) (a' := ?_) (bv 10 31) rfl rfl (take_ofW HT_.out HW_.out (by kernel_rfl)) (fun _ _ _ h => h) (Or.inl ⟨by rfl, ?_⟩) hHeld ?_ ?_
     rotate_left
     ·rintro w' ⟨O, P, Q, R, T, U⟩
      go_simp
      with_reducible rfl
     rotate_left
     ·simp only [Act.put, sA, sB, sC, i64_w, i32_w]
      rfl
     refine take_ (i := 5) (N := some 19) (v := ?_) (a' := ?_) (bv 10 63) rfl rfl (take_ofW HT_.out HW_.out (by kernel_rfl)) (fun _ _ _ h => h) (Or.inl ⟨by rfl, ?_⟩) hHeld ?_ ?_
     rotate_left
     ·rintro w' ⟨O, P, Q, R, T, U⟩
      go_simp
      with_reducible rfl
     rotate_left
     ·simp only [Act.put, sA, sB, sC, i64_w, i32_w]
      rfl
     refine pure_ (i := 6) (N := some 20) (v := ?_) (a' := ?_) (bv 10 127) rfl rfl (any_of HT_.out (by kernel_rfl)) (fun _ _ _ h => h) (Or.inl ⟨by rfl, ?_⟩) ?_ ?_
     rotate_left
     ·intro w'
      go_simp
      with_reducible rfl
     rotate_left
     ·simp only [Act.put, sA, sB, sC, i64_w, i32_w]
      rfl
     refine one_ (i := 7) (N := some 21) (bv 10 255) rfl rfl (one_of HT_.out (by kernel_rfl)) (by decide) (fun K hK => ?_)
     refine goes_ Tryd.func52 (by kernel_rfl) rfl #[.int .i64 (wrap64 (a1 + o)), .int .i64 (b.length : Int)] (by rfl) rfl rfl ag_ ?_
     with_reducible refine (shutterref11_mod.calls k1 (wrap64 (a1 + o)) (b.length : Int) y _ A5.out).mono ?_
     rintro e w' ⟨rfl, ⟨nd, rfl⟩⟩
     refine ⟨_, rfl, ?_⟩
     refine hK.out _ _ ⟨(blk_cell a.out 0).trans rfl, (blk_cell a.out 1).trans rfl, (blk_cell a.out 2).trans rfl, (blk_cell a.out 3).trans rfl, (blk_cell a.out 4).trans rfl, (blk_cell a.out 5).trans rfl⟩ (fun hHeld => ?_)
     clear hK K
     refine norm_ (a' := ?_) ?_ ?_
     rotate_left
     ·show Act.put _ (some 21) _ = _
      simp only [Act.put, sA, sB, sC, i64_w, i32_w]
      rfl
     refine one_ (i := 8) (N := some 22) (bv 10 511) rfl rfl (one_of HT_.out (by kernel_rfl)) (by decide) (fun K hK => ?_)
     refine goes_ Tryd.func51 (by kernel_rfl) rfl #[.agg #[.int .i64 d, .int .i64 g, .slice u b.length x, .int .i64 j, .bool l, .bool m], .int .i64 y] (by rfl) rfl rfl ag_ ?_
     with_reducible refine (shutterref11_first.calls k1 d g _ _ b j l m y s _ ?side1 ?side2 A6.out).mono ?_
     (case side1 => repeat (first | exact (Kd.C_below A.out bl_) | (with_reducible apply pC)))
     (case side2 => exact z.out)
     rintro e aR ⟨rfl, hb⟩
     refine ⟨_, rfl, ?_⟩
     have p := Z (kb a.out hb)
     have q := Z (below_step bl_ hb)
     clear a
     clear HB
     have a := p
     have HB := q
     clear p q
     (try clear hb)
     (try clear ay)
     (try clear hk)
     (try clear hi)
     refine hK.out _ _ ⟨(blk_cell a.out 0).trans rfl, (blk_cell a.out 1).trans rfl, (blk_cell a.out 2).trans rfl, (blk_cell a.out 3).trans rfl, (blk_cell a.out 4).trans rfl, (blk_cell a.out 5).trans rfl⟩ (fun hHeld => ?_)
     clear hK K
     refine norm_ (a' := ?_) ?_ ?_
     rotate_left
     ·show Act.put _ (some 22) _ = _
      simp only [Act.put, sA, sB, sC, i64_w, i32_w]
      rfl
     refine pure_ (i := 9) (N := some 6) (v := ?_) (a' := ?_) (bv 10 1023) rfl rfl (any_of HT_.out (by kernel_rfl)) (fun _ _ _ h => h) (Or.inl ⟨by rfl, ?_⟩) ?_ ?_
     rotate_left
     ·intro w'
      go_simp
      with_reducible rfl
     rotate_left
     ·simp only [Act.put, sA, sB, sC, i64_w, i32_w]
      rfl
     refine done_ (done_of HT_.out (by kernel_rfl)) ?_
     try go_wp2
     go_roundg k1
     case measure => have := G.out; omega
     case rel => exact ⟨(wrap64 (o + 1)), (dn_), H', ⟨by have := G.out; omega⟩, ⟨vK a.out⟩, ⟨bl_⟩⟩
   ·rw [if_neg c4] at H
    have L : decide (o ≤ (b.length : Int)) = false := decide_eq_false c4
    clear c4
    obtain rfl := Option.some.inj H
    obtain ⟨ac, ad, ae, af, ag, ah, ao, ap, aq, ar, au, av⟩ := cells6 a.out
    go_wp2
    go_ret
    exact ⟨er_, bl_⟩

end Go.Proofs.YtgboplhcjhlabaaDoor.P
