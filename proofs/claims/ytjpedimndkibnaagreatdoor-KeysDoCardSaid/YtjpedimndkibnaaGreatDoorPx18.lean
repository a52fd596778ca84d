/- pp.py and press2.py (wip/tools) wrote this text. -/
import Derived.Test.YtjpedimndkibnaaGreatDoorPx0
import Derived.Test.YtjpedimndkibnaaGreatDoorPxS
import Derived.Test.YtjpedimndkibnaaGreatDoorPxT
import Derived.Test.YtjpedimndkibnaaGreatDoorPx3
import Derived.Test.YtjpedimndkibnaaGreatDoorPx17
namespace Go.Proofs.YtjpedimndkibnaaGreatDoor.P
open Go.RowKit Go.Proofs.YtjpedimndkibnaaGreatDoorW.PrintWords Go.Proofs.YtjpedimndkibnaaGreatDoorW.PrintLast Go.Proofs.YtjpedimndkibnaaGreatDoorW.PrintMore
attribute [local go_sem] max2_int min2_int max_two min_two max_three min_three max_four min_four
attribute [local go_sem] Instr.field asAgg
set_option linter.unusedVariables false
set_option linter.unusedSimpArgs false
set_option maxHeartbeats 8000000
set_option maxRecDepth 100000

/-! ### shutterref11_Next: function 35 -/
def shutterref11_Next.l0 : Nat → Int → Int → Int → Int → List (S55) → Int → Bool → Bool → Option (Int)
 | 0, _, _, _, _, _, _, _, _ => none
 | k + 1, l, j, b, c, a, d, e, g => if j ≤ (a.length : Int) then ((shutterref11_mod.f k (wrap64 (l + j)) (a.length : Int)).bind fun i => ((shutterref11_first.f k b c a d e g i).bind fun h => (if h ≥ 0 then (some h) else (shutterref11_Next.l0 k l (wrap64 (j + 1)) b c a d e g)))) else (some (-1))
def shutterref11_Next.f (k : Nat) (a b : Int) (g : List (S55)) (c : Int) (d e : Bool) (a1 : Int) : Option (Int) := shutterref11_Next.l0 k a1 1 a b g c d e
theorem shutterref11_Next.mono_l : ∀ k, (∀ b c d e f g i j, LeO (shutterref11_Next.l0 k b c d e f g i j) (shutterref11_Next.l0 (k + 1) b c d e f g i j))
 | 0 => fun _ _ _ _ _ _ _ _ r h => by simp [shutterref11_Next.l0] at h
 | k + 1 => by
  have a := shutterref11_Next.mono_l k
  ·intro b c d e f g i j
   unfold shutterref11_Next.l0
   repeat' first
   | (with_reducible exact a _ _ _ _ _ _ _ _)
   | (with_reducible exact shutterref11_first.mono _ _ _ _ _ _ _ _)
   | (with_reducible exact shutterref11_mod.mono _ _ _)
   | (with_reducible exact LeO.refl _)
   | (with_reducible exact LeO.none _)
   | (with_reducible refine LeO.ite ?_ ?_)
   | (with_reducible refine LeO.bind ?_ (fun _ => ?_))
   | exact a _ _ _ _ _ _ _ _
   | exact shutterref11_first.mono _ _ _ _ _ _ _ _
   | exact shutterref11_mod.mono _ _ _
   | exact LeO.none _
   | refine LeO.ite ?_ ?_
   | refine LeO.bind ?_ (fun _ => ?_)
theorem shutterref11_Next.mono : ∀ a0 a1 b c a4 d e k, LeO (shutterref11_Next.f k a0 a1 b c a4 d e) (shutterref11_Next.f (k + 1) a0 a1 b c a4 d e) := by
 intro a0 a1 b c a4 d e k
 have a := shutterref11_Next.mono_l k
 unfold shutterref11_Next.f
 repeat' first
   | (with_reducible exact a _ _ _ _ _ _ _ _)
   | (with_reducible exact shutterref11_first.mono _ _ _ _ _ _ _ _)
   | (with_reducible exact shutterref11_mod.mono _ _ _)
   | (with_reducible exact LeO.refl _)
   | (with_reducible exact LeO.none _)
   | (with_reducible refine LeO.ite ?_ ?_)
   | (with_reducible refine LeO.bind ?_ (fun _ => ?_))
   | exact a _ _ _ _ _ _ _ _
   | exact shutterref11_first.mono _ _ _ _ _ _ _ _
   | exact shutterref11_mod.mono _ _ _
   | exact LeO.none _
   | refine LeO.ite ?_ ?_
   | refine LeO.bind ?_ (fun _ => ?_)
def shutterref11_Next.T4 : Bool × List (List Nat × List Nat) := (true, [([], []), ([], []), ([], []), ([1, 2], [1, 2]), ([], []), ([4], [4]), ([5], [5]), ([3, 6], [3, 6]), ([0, 7, 7], [0, 7]), ([8, 8, 0, 1, 2, 3, 4, 5, 6, 7, 8], [8])])
def shutterref11_Next.B4 : List Nat := [0, 0, 0, 6, 0, 16, 48, 126, 255, 511]
theorem shutterref11_Next.tab4 : rtab .any (opsOf Tryz.f35 4) = shutterref11_Next.T4 := by kernel_rfl
theorem shutterref11_Next.bits4 : waitsOk shutterref11_Next.T4.2 shutterref11_Next.B4 = true := by kernel_rfl
theorem shutterref11_Next.calls (k : Nat) (d g : Int) (u : Option Addr) (x : Nat) (b : List (S55)) (j : Int) (l m : Bool) (a1 r : Int) (w : World) (D : Kd.C k55 w u b.length b) (B : b.length ≤ x) (h : shutterref11_Next.f k d g b j l m a1 = some r) :
  Calls Tryz.prog 35 #[.agg #[.int .i64 d, .int .i64 g, .slice u b.length x, .int .i64 j, .bool l, .bool m], .int .i64 a1] w fun e w' => e = .returned (.int .i64 r) ∧ Below w.heap.size w w' := by
 have aN := Tryz.underlying24
 have A := Z D
 have z := Z B
 clear D B
 have HB := Z (Below.refl w.heap.size w)
 unfold shutterref11_Next.f at h
 have H := h
 clear h
 have H' := Z H
 clear H
 go_enter Tryz.func35, Tryz.ntmps35
 go_wp2_with (first | ((with_reducible refine gD_ 2 rfl ?_); refine bx_ 2 24 #[.int .i64 d, .int .i64 g, .slice u b.length x, .int .i64 j, .bool l, .bool m] ?_; intro c hg w3 hbox hb; have a := Z hbox; have aM := ln' w hg; replace HB := bs_ hb; clear hb hbox hg))
 go_loopg [5] k (fun kq v5 w' => ∃ (o : Int), v5 = .int .i64 o ∧ Aside0 (shutterref11_Next.l0 kq a1 o d g b j l m = some r) ∧ Aside0 (kq ≤ k) ∧ Aside0 (w'.heap[c]? = some (.cells #[.int .i64 d, .int .i64 g, (.slice u b.length x), .int .i64 j, .bool l, .bool m] 24 (0, 0))) ∧ Aside0 (Below w.heap.size w w'))
 case atStart => exact ⟨(1), (dn_), H', ⟨Nat.le_refl _⟩, ⟨vK a.out⟩, ⟨bl_⟩⟩
 case round =>
  clear H'
  obtain ⟨o, rfl, HA, G, a, HB⟩ := hrel
  cases gk with
  | zero => exact absurd HA.out (by simp [shutterref11_Next.l0])
  | succ k1 =>
   have H := HA.out
   clear HA
   simp only [shutterref11_Next.l0] at H
   by_cases c4 : o ≤ (b.length : Int)
   rotate_left
   ·rw [if_neg c4] at H
    have L := decide_eq_false c4
    clear c4
    obtain rfl := Option.some.inj H
    have ac := cells6 a.out
    go_wp2
    go_ret
    exact ⟨er_, bl_⟩
   rw [if_pos c4] at H
   have L := decide_eq_true c4
   clear c4
   replace H := bn_ H
   obtain ⟨y, A5, H⟩ := H
   replace H := bn_ H
   obtain ⟨s, A6, H⟩ := H
   by_cases c7 : s ≥ 0
   ·rw [if_pos c7] at H
    have M : decide (0 ≤ s) = true := decide_eq_true c7
    clear c7
    obtain rfl := Option.some.inj H
    have az := cells6 a.out
    try go_wp2
    replace a := Z (blk_drew a.out)
    replace HB := Z (below_drew1 HB.out)
    refine start_ (n := 10) (S := fun w' => w'.cell? ⟨c, 0, none⟩ = some (.int .i64 d) ∧ w'.cell? ⟨c, 1, none⟩ = some (.int .i64 g) ∧ w'.cell? ⟨c, 2, none⟩ = some (.slice u b.length x) ∧ w'.cell? ⟨c, 3, none⟩ = some (.int .i64 j) ∧ w'.cell? ⟨c, 4, none⟩ = some (.bool l) ∧ w'.cell? ⟨c, 5, none⟩ = some (.bool m)) (ds := []) (bv 10 0) (by kernel_rfl) rfl rfl ⟨(blk_cell a.out 0).trans rfl, (blk_cell a.out 1).trans rfl, (blk_cell a.out 2).trans rfl, (blk_cell a.out 3).trans rfl, (blk_cell a.out 4).trans rfl, (blk_cell a.out 5).trans rfl⟩ (fun hHeld => ?_); refine with_tabW shutterref11_Next.tab4 shutterref11_Next.bits4 (fun HT_ HW_ => ?_)
    generalize wr.drew = w9 at a HB hHeld ⊢
    refine pT_ HT_ 1 10 2 (some 15) ?_
    refine pT_ HT_ 2 10 6 (some 16) ?_
    refine pT_ HT_ 3 10 14 (some 17) ?_
    refine pT_ HT_ 4 10 30 (some 18) ?_
    refine tT_ HT_ HW_ hHeld 0 10 31 (some 14) ?_
    refine tT_ HT_ HW_ hHeld 5 10 63 (some 19) ?_
    refine pT_ HT_ 6 10 127 (some 20) ?_
    refine oT_ HT_ 7 10 255 (some 21) (fun K hK => ?_)
    refine goes_ Tryz.func66 (by kernel_rfl) rfl #[.int .i64 (wrap64 (a1 + o)), .int .i64 (b.length : Int)] (by rfl) rfl rfl ag_ ?_
    with_reducible refine (shutterref11_mod.calls k1 (wrap64 (a1 + o)) (b.length : Int) y _ A5.out).mono ?_
    rintro e w' ⟨rfl, ⟨nd, rfl⟩⟩
    refine ⟨_, rfl, ?_⟩
    refine hK.out _ _ ⟨(blk_cell a.out 0).trans rfl, (blk_cell a.out 1).trans rfl, (blk_cell a.out 2).trans rfl, (blk_cell a.out 3).trans rfl, (blk_cell a.out 4).trans rfl, (blk_cell a.out 5).trans rfl⟩ (fun hHeld => ?_)
    clear hK K
    refine nA_ (some 21) ?_
    refine oT_ HT_ 8 10 511 (some 22) (fun K hK => ?_)
    refine goes_ Tryz.func65 (by kernel_rfl) rfl #[.agg #[.int .i64 d, .int .i64 g, .slice u b.length x, .int .i64 j, .bool l, .bool m], .int .i64 y] (by rfl) rfl rfl ag_ ?_
    with_reducible refine (shutterref11_first.calls k1 d g _ _ b j l m y s _ ?side1 ?side2 A6.out).mono ?_
    (case side1 => repeat (first | exact (Kd.C_below A.out bl_) | (with_reducible apply pC)))
    (case side2 => exact z.out)
    rintro e aP ⟨rfl, hb⟩
    refine ⟨_, rfl, ?_⟩
    replace a := kb' a hb
    replace HB := bs_ hb
    (try clear hb)
    (try clear ay)
    (try clear hk)
    (try clear hi)
    refine hK.out _ _ ⟨(blk_cell a.out 0).trans rfl, (blk_cell a.out 1).trans rfl, (blk_cell a.out 2).trans rfl, (blk_cell a.out 3).trans rfl, (blk_cell a.out 4).trans rfl, (blk_cell a.out 5).trans rfl⟩ (fun hHeld => ?_)
    clear hK K
    refine nA_ (some 22) ?_
    refine pT_ HT_ 9 10 1023 (some 6) ?_
    refine done_ (done_of HT_.out (by kernel_rfl)) ?_
    try go_wp2
    go_ret
    exact ⟨er_, bl_⟩
   rw [if_neg c7] at H
   have M : decide (0 ≤ s) = false := decide_eq_false c7
   clear c7
   have H' := Z H
   clear H
   have V := cells6 a.out
   try go_wp2
   replace a := Z (blk_drew a.out)
   replace HB := Z (below_drew1 HB.out)
   refine start_ (n := 10) (S := fun w' => w'.cell? ⟨c, 0, none⟩ = some (.int .i64 d) ∧ w'.cell? ⟨c, 1, none⟩ = some (.int .i64 g) ∧ w'.cell? ⟨c, 2, none⟩ = some (.slice u b.length x) ∧ w'.cell? ⟨c, 3, none⟩ = some (.int .i64 j) ∧ w'.cell? ⟨c, 4, none⟩ = some (.bool l) ∧ w'.cell? ⟨c, 5, none⟩ = some (.bool m)) (ds := []) (bv 10 0) (by kernel_rfl) rfl rfl ⟨(blk_cell a.out 0).trans rfl, (blk_cell a.out 1).trans rfl, (blk_cell a.out 2).trans rfl, (blk_cell a.out 3).trans rfl, (blk_cell a.out 4).trans rfl, (blk_cell a.out 5).trans rfl⟩ (fun hHeld => ?_); refine with_tabW shutterref11_Next.tab4 shutterref11_Next.bits4 (fun HT_ HW_ => ?_)
   generalize wr.drew = aQ at a HB hHeld ⊢
   refine pT_ HT_ 1 10 2 (some 15) ?_
   refine pT_ HT_ 2 10 6 (some 16) ?_
   refine pT_ HT_ 3 10 14 (some 17) ?_
   refine pT_ HT_ 4 10 30 (some 18) ?_
   refine tT_ HT_ HW_ hHeld 0 10 31 (some 14) ?_
   refine tT_ HT_ HW_ hHeld 5 10 63 (some 19) ?_
   refine pT_ HT_ 6 10 127 (some 20) ?_
   refine oT_ HT_ 7 10 255 (some 21) (fun K hK => ?_)
   refine goes_ Tryz.func66 (by kernel_rfl) rfl #[.int .i64 (wrap64 (a1 + o)), .int .i64 (b.length : Int)] (by rfl) rfl rfl ag_ ?_
   with_reducible refine (shutterref11_mod.calls k1 (wrap64 (a1 + o)) (b.length : Int) y _ A5.out).mono ?_
   rintro e w' ⟨rfl, ⟨nd, rfl⟩⟩
   refine ⟨_, rfl, ?_⟩
   refine hK.out _ _ ⟨(blk_cell a.out 0).trans rfl, (blk_cell a.out 1).trans rfl, (blk_cell a.out 2).trans rfl, (blk_cell a.out 3).trans rfl, (blk_cell a.out 4).trans rfl, (blk_cell a.out 5).trans rfl⟩ (fun hHeld => ?_)
   clear hK K
   refine nA_ (some 21) ?_
   refine oT_ HT_ 8 10 511 (some 22) (fun K hK => ?_)
   refine goes_ Tryz.func65 (by kernel_rfl) rfl #[.agg #[.int .i64 d, .int .i64 g, .slice u b.length x, .int .i64 j, .bool l, .bool m], .int .i64 y] (by rfl) rfl rfl ag_ ?_
   with_reducible refine (shutterref11_first.calls k1 d g _ _ b j l m y s _ ?side1 ?side2 A6.out).mono ?_
   (case side1 => repeat (first | exact (Kd.C_below A.out bl_) | (with_reducible apply pC)))
   (case side2 => exact z.out)
   rintro e aR ⟨rfl, hb⟩
   refine ⟨_, rfl, ?_⟩
   replace a := kb' a hb
   replace HB := bs_ hb
   (try clear hb)
   (try clear ay)
   (try clear hk)
   (try clear hi)
   refine hK.out _ _ ⟨(blk_cell a.out 0).trans rfl, (blk_cell a.out 1).trans rfl, (blk_cell a.out 2).trans rfl, (blk_cell a.out 3).trans rfl, (blk_cell a.out 4).trans rfl, (blk_cell a.out 5).trans rfl⟩ (fun hHeld => ?_)
   clear hK K
   refine nA_ (some 22) ?_
   refine pT_ HT_ 9 10 1023 (some 6) ?_
   refine done_ (done_of HT_.out (by kernel_rfl)) ?_
   try go_wp2
   go_roundg k1
   case measure => have := G.out; omega
   case rel => exact ⟨(wrap64 (o + 1)), (dn_), H', ⟨by have := G.out; omega⟩, ⟨vK a.out⟩, ⟨bl_⟩⟩

/-! ### shutterref11_Begin: function 106 -/
def shutterref11_Begin.l0 : Nat → Int → Int → Int → Int → List (S55) → Int → Bool → Bool → Option (Int)
 | 0, _, _, _, _, _, _, _, _ => none
 | k + 1, j, i, c, d, a, e, g, h => if i < (a.length : Int) then ((shutterref11_mod.f k (wrap64 (j - i)) (a.length : Int)).bind fun b => (if 0 ≤ b then (if b < (a.length : Int) then (if (rd_T55 a b).f0 = true then (some b) else (shutterref11_Begin.l0 k j (wrap64 (i + 1)) c d a e g h)) else (none)) else (none))) else (some (-1))
def shutterref11_Begin.f (k : Nat) (a b : Int) (g : List (S55)) (c : Int) (d e : Bool) (a1 : Int) : Option (Int) := shutterref11_Begin.l0 k a1 0 a b g c d e
theorem shutterref11_Begin.mono_l : ∀ k, (∀ b c d e f g i j, LeO (shutterref11_Begin.l0 k b c d e f g i j) (shutterref11_Begin.l0 (k + 1) b c d e f g i j))
 | 0 => fun _ _ _ _ _ _ _ _ r h => by simp [shutterref11_Begin.l0] at h
 | k + 1 => by
  have a := shutterref11_Begin.mono_l k
  ·intro b c d e f g i j
   unfold shutterref11_Begin.l0
   repeat' first
   | (with_reducible exact a _ _ _ _ _ _ _ _)
   | (with_reducible exact shutterref11_mod.mono _ _ _)
   | (with_reducible exact LeO.refl _)
   | (with_reducible exact LeO.none _)
   | (with_reducible refine LeO.ite ?_ ?_)
   | (with_reducible refine LeO.bind ?_ (fun _ => ?_))
   | exact a _ _ _ _ _ _ _ _
   | exact shutterref11_mod.mono _ _ _
   | exact LeO.none _
   | refine LeO.ite ?_ ?_
   | refine LeO.bind ?_ (fun _ => ?_)
theorem shutterref11_Begin.mono : ∀ a0 a1 b c a4 d e k, LeO (shutterref11_Begin.f k a0 a1 b c a4 d e) (shutterref11_Begin.f (k + 1) a0 a1 b c a4 d e) := by
 intro a0 a1 b c a4 d e k
 have a := shutterref11_Begin.mono_l k
 unfold shutterref11_Begin.f
 repeat' first
   | (with_reducible exact a _ _ _ _ _ _ _ _)
   | (with_reducible exact shutterref11_mod.mono _ _ _)
   | (with_reducible exact LeO.refl _)
   | (with_reducible exact LeO.none _)
   | (with_reducible refine LeO.ite ?_ ?_)
   | (with_reducible refine LeO.bind ?_ (fun _ => ?_))
   | exact a _ _ _ _ _ _ _ _
   | exact shutterref11_mod.mono _ _ _
   | exact LeO.none _
   | refine LeO.ite ?_ ?_
   | refine LeO.bind ?_ (fun _ => ?_)
theorem shutterref11_Begin.calls (k : Nat) (n o : Int) (z : Option Addr) (A : Nat) (a : List (S55)) (p : Int) (q s : Bool) (a1 r : Int) (w : World) (I : Kd.C k55 w z a.length a) (G : a.length ≤ A) (h : shutterref11_Begin.f k n o a p q s a1 = some r) :
  Calls Tryz.prog 106 #[.agg #[.int .i64 n, .int .i64 o, .slice z a.length A, .int .i64 p, .bool q, .bool s], .int .i64 a1] w fun e w' => e = .returned (.int .i64 r) ∧ Below w.heap.size w w' := by
 have aM := Tryz.underlying24
 have F := Z I
 have aJ := Z G
 clear I G
 have HB := Z (Below.refl w.heap.size w)
 unfold shutterref11_Begin.f at h
 have H := h
 clear h
 have H' := Z H
 clear H
 go_enter Tryz.func106, Tryz.ntmps106
 go_wp2_with (first | ((with_reducible refine gD_ 2 rfl ?_); refine bx_ 2 24 #[.int .i64 n, .int .i64 o, .slice z a.length A, .int .i64 p, .bool q, .bool s] ?_; intro B hg w3 hbox hb; have v := Z hbox; have aI := ln' w hg; replace HB := bs_ hb; clear hb hbox hg))
 go_loopg [5] k (fun kq v5 w' => ∃ (j : Int), v5 = .int .i64 j ∧ Aside0 (shutterref11_Begin.l0 kq a1 j n o a p q s = some r) ∧ Aside0 (kq ≤ k) ∧ Aside0 (w'.heap[B]? = some (.cells #[.int .i64 n, .int .i64 o, (.slice z a.length A), .int .i64 p, .bool q, .bool s] 24 (0, 0))) ∧ Aside0 (Below w.heap.size w w'))
 case atStart => exact ⟨(0), (dn_), H', ⟨Nat.le_refl _⟩, ⟨vK v.out⟩, ⟨bl_⟩⟩
 case round =>
  clear H'
  obtain ⟨j, rfl, HA, L, v, HB⟩ := hrel
  cases gk with
  | zero => exact absurd HA.out (by simp [shutterref11_Begin.l0])
  | succ k1 =>
   have H := HA.out
   clear HA
   simp only [shutterref11_Begin.l0] at H
   by_cases c4 : j < (a.length : Int)
   rotate_left
   ·rw [if_neg c4] at H
    have S := decide_eq_false c4
    clear c4
    obtain rfl := Option.some.inj H
    have ag := cells6 v.out
    go_wp2
    go_ret
    exact ⟨er_, bl_⟩
   rw [if_pos c4] at H
   have S := decide_eq_true c4
   clear c4
   replace H := bn_ H
   obtain ⟨b, A5, H⟩ := H
   obtain ⟨c6, H⟩ := gt_ H
   have aK := decide_eq_true c6
   clear c6
   obtain ⟨c7, H⟩ := gt_ H
   have aL := decide_eq_true c7
   clear c7
   obtain ⟨M, E⟩ : ∃ b_ : Bool, b_ = ((rd_T55 a b).f0) := ⟨_, rfl⟩
   replace H : (if M = true then (some b) else (shutterref11_Begin.l0 k1 a1 (wrap64 (j + 1)) n o a p q s)) = some r := by rw [← E] at H; exact H
   have u := Z E
   clear E
   by_cases c9 : M = true
   ·subst c9
    rw [if_pos rfl] at H
    obtain rfl := Option.some.inj H
    have T := cells6 v.out
    go_wp2_with (first | ((with_reducible refine gF_ 66 rfl ?_); refine gd_ (some 20) Tryz.func66 (shutterref11_mod.calls k1 (wrap64 (a1 - j)) (a.length : Int) b _ A5.out) ?_; rintro e w' ⟨rfl, ⟨nd, rfl⟩⟩; refine ⟨_, rfl, ?_⟩; have x : 0 ≤ (b : Int) := od_; have y : b < (a.length : Int) := od_; obtain ⟨J, D, c, d, g, l, i, m⟩ := at_T55 F.out b x y; (try rw [← u.out] at c); (try rw [← u.out] at d); (try rw [← u.out] at g); (try rw [← u.out] at i); cases D; replace c := (HB.out.cell (bk_ w _ c)).trans c; replace d := (HB.out.cell (bk_ w _ d)).trans d; replace g := (HB.out.cell (bk_ w _ g)).trans g; replace l := (HB.out.cell (bk_ w _ l)).trans l; replace i := (HB.out.cell (bk_ w _ i)).trans i; replace m := (HB.out.cell (bk_ w _ m)).trans m; replace x := eq_true x; replace y := eq_true y))
    go_ret
    exact ⟨er_, bl_⟩
   replace c9 := Bool.eq_false_iff.mpr c9
   subst c9
   rw [iF_] at H
   have H' := Z H
   clear H
   have aa := cells6 v.out
   go_wp2_with (first | ((with_reducible refine gF_ 66 rfl ?_); refine gd_ (some 20) Tryz.func66 (shutterref11_mod.calls k1 (wrap64 (a1 - j)) (a.length : Int) b _ A5.out) ?_; rintro e w' ⟨rfl, ⟨nd, rfl⟩⟩; refine ⟨_, rfl, ?_⟩; have x : 0 ≤ (b : Int) := od_; have y : b < (a.length : Int) := od_; obtain ⟨J, D, c, d, g, l, i, m⟩ := at_T55 F.out b x y; (try rw [← u.out] at c); (try rw [← u.out] at d); (try rw [← u.out] at g); (try rw [← u.out] at i); cases D; replace c := (HB.out.cell (bk_ w _ c)).trans c; replace d := (HB.out.cell (bk_ w _ d)).trans d; replace g := (HB.out.cell (bk_ w _ g)).trans g; replace l := (HB.out.cell (bk_ w _ l)).trans l; replace i := (HB.out.cell (bk_ w _ i)).trans i; replace m := (HB.out.cell (bk_ w _ m)).trans m; replace x := eq_true x; replace y := eq_true y))
   go_roundg k1
   case measure => have := L.out; omega
   case rel => exact ⟨(wrap64 (j + 1)), (dn_), H', ⟨by have := L.out; omega⟩, ⟨vK v.out⟩, ⟨bl_⟩⟩

/-! ### shutterref11_Of: function 64 -/
def shutterref11_Of.f (k : Nat) (c d : Int) (b : List (S55)) (e : Int) (g h : Bool) (a1 : Int) : Option (Bool × Bool × Int × Bool) := (shutterref11_Begin.f k c d b e g h a1).bind fun a => (if a < 0 then (some (false, false, 0, false)) else (if 0 ≤ a then (if a < (b.length : Int) then (some ((rd_T55 b a).f1.f0, (rd_T55 b a).f1.f1, (rd_T55 b a).f1.f2, (rd_T55 b a).f1.f3)) else (none)) else (none)))
theorem shutterref11_Of.mono : ∀ a0 a1 a b a4 c d k, LeO (shutterref11_Of.f k a0 a1 a b a4 c d) (shutterref11_Of.f (k + 1) a0 a1 a b a4 c d) := by
 intro a0 a1 a b a4 c d k
 unfold shutterref11_Of.f
 repeat' first
   | (with_reducible exact shutterref11_Begin.mono _ _ _ _ _ _ _ _)
   | (with_reducible exact LeO.refl _)
   | (with_reducible exact LeO.none _)
   | (with_reducible refine LeO.ite ?_ ?_)
   | (with_reducible refine LeO.bind ?_ (fun _ => ?_))
   | exact shutterref11_Begin.mono _ _ _ _ _ _ _ _
   | exact LeO.none _
   | refine LeO.ite ?_ ?_
   | refine LeO.bind ?_ (fun _ => ?_)
theorem shutterref11_Of.calls (k : Nat) (l m : Int) (x : Option Addr) (y : Nat) (b : List (S55)) (n : Int) (o p : Bool) (a1 : Int) (X Y : Bool) (r3 : Int) (r4 : Bool) (w : World) (S : Kd.C k55 w x b.length b) (R : b.length ≤ y) (h : shutterref11_Of.f k l m b n o p a1 = some (X, Y, r3, r4)) :
  Calls Tryz.prog 64 #[.agg #[.int .i64 l, .int .i64 m, .slice x b.length y, .int .i64 n, .bool o, .bool p], .int .i64 a1] w fun e w' => e = .returned (.agg #[.bool X, .bool Y, .int .i64 r3, .bool r4]) ∧ Below w.heap.size w w' := by
 have bh := Tryz.underlying24
 have bi := Tryz.underlying53
 have G := Z S
 have O := Z R
 clear S R
 have HB := Z (Below.refl w.heap.size w)
 unfold shutterref11_Of.f at h
 have H := h
 clear h
 replace H := bn_ H
 obtain ⟨a, A3, H⟩ := H
 by_cases c4 : a < 0
 ·rw [if_pos c4] at H
  have ad := decide_eq_true c4
  clear c4
  obtain ⟨rfl, rfl, rfl, rfl⟩ := ij4_ H
  go_enter Tryz.func64, Tryz.ntmps64
  go_wp2_with (first | ((with_reducible refine gD_ 2 rfl ?_); refine bx_ 2 24 #[.int .i64 l, .int .i64 m, .slice x b.length y, .int .i64 n, .bool o, .bool p] ?_; intro v hg w5 hbox hb; have c := Z hbox; have V := ln' w hg; replace HB := bs_ hb; clear hb hbox hg) | ((with_reducible refine gD_ 4 rfl ?_); refine bx_ 4 53 #[.bool false, .bool false, .int .i64 0, .bool false] ?_; intro q hg w6 hbox hb; have d := Z hbox; have W := ln' w hg; replace HB := bs_ hb; have r := nl' c hg; replace c := kb' c hb; clear hb hbox hg; have bf := ns_ r; have aX := cells6 c.out) | ((with_reducible refine gF_ 106 rfl ?_); refine gd_ (some 8) Tryz.func106 (shutterref11_Begin.calls k l m _ _ b n o p a1 a _ (cB_ G HB) O.out A3.out) ?_; rintro e w9 ⟨rfl, hb⟩; refine ⟨_, rfl, ?_⟩; replace c := kb' c hb; replace d := kb' d hb; replace HB := bs_ hb; (try clear hb); have af := cells4 d.out))
  refine bodyPost_ret (results_cell_row rfl _ _ q 53 #[.bool false, .bool false, .int .i64 0, .bool false] (0, 0) _ rfl (by (with_reducible repeat apply pK); refine blk_put (cs := #[.bool false, .bool false, .int .i64 0, .bool false]) ?_ 3 _ rfl; (with_reducible repeat apply pK); refine blk_put (cs := #[.bool false, .bool false, .int .i64 0, .bool false]) ?_ 2 _ rfl; (with_reducible repeat apply pK); refine blk_put (cs := #[.bool false, .bool false, .int .i64 0, .bool false]) ?_ 1 _ rfl; (with_reducible repeat apply pK); refine blk_put (cs := #[.bool false, .bool false, .int .i64 0, .bool false]) ?_ 0 _ rfl; (with_reducible repeat apply pK); exact d.out) Tryz.underlying53 rfl (by kernel_rfl)) rfl ?_
  exact ⟨er_, bl_⟩
 rw [if_neg c4] at H
 have ad := decide_eq_false c4
 clear c4
 by_cases P : 0 ≤ a
 ·rw [if_pos P] at H
  have bb := decide_eq_true P
  clear P
  by_cases Q : a < (b.length : Int)
  ·rw [if_pos Q] at H
   have bc := decide_eq_true Q
   clear Q
   obtain ⟨rfl, rfl, rfl, rfl⟩ := ij4_ H
   go_enter Tryz.func64, Tryz.ntmps64
   go_wp2_with (first | ((with_reducible refine gD_ 2 rfl ?_); refine bx_ 2 24 #[.int .i64 l, .int .i64 m, .slice x b.length y, .int .i64 n, .bool o, .bool p] ?_; intro v hg bj hbox hb; have c := Z hbox; have V := ln' w hg; replace HB := bs_ hb; clear hb hbox hg) | ((with_reducible refine gD_ 4 rfl ?_); refine bx_ 4 53 #[.bool false, .bool false, .int .i64 0, .bool false] ?_; intro q hg bk hbox hb; have d := Z hbox; have W := ln' w hg; replace HB := bs_ hb; have r := nl' c hg; replace c := kb' c hb; clear hb hbox hg; have bd := ns_ r; have aj := cells6 c.out) | ((with_reducible refine gF_ 106 rfl ?_); refine gd_ (some 8) Tryz.func106 (shutterref11_Begin.calls k l m _ _ b n o p a1 a _ (cB_ G HB) O.out A3.out) ?_; rintro e bl ⟨rfl, hb⟩; refine ⟨_, rfl, ?_⟩; replace c := kb' c hb; replace d := kb' d hb; replace HB := bs_ hb; (try clear hb); have ap := cells6 c.out; have L : 0 ≤ (a : Int) := od_; have M : a < (b.length : Int) := od_; obtain ⟨ba, ae, z, A, B, D, E, F⟩ := at_T55 G.out a L M; cases ae; replace z := (HB.out.cell (bk_ w _ z)).trans z; replace A := (HB.out.cell (bk_ w _ A)).trans A; replace B := (HB.out.cell (bk_ w _ B)).trans B; replace D := (HB.out.cell (bk_ w _ D)).trans D; replace E := (HB.out.cell (bk_ w _ E)).trans E; replace F := (HB.out.cell (bk_ w _ F)).trans F; replace L := eq_true L; replace M := eq_true M; have ax := cells4 d.out))
   refine bodyPost_ret (results_cell_row rfl _ _ q 53 #[.bool ((rd_T55 b a).f1.f0), .bool ((rd_T55 b a).f1.f1), .int .i64 ((rd_T55 b a).f1.f2), .bool ((rd_T55 b a).f1.f3)] (0, 0) _ rfl (by (with_reducible repeat apply pK); refine blk_put (cs := #[.bool ((rd_T55 b a).f1.f0), .bool ((rd_T55 b a).f1.f1), .int .i64 ((rd_T55 b a).f1.f2), .bool false]) ?_ 3 _ rfl; (with_reducible repeat apply pK); refine blk_put (cs := #[.bool ((rd_T55 b a).f1.f0), .bool ((rd_T55 b a).f1.f1), .int .i64 0, .bool false]) ?_ 2 _ rfl; (with_reducible repeat apply pK); refine blk_put (cs := #[.bool ((rd_T55 b a).f1.f0), .bool false, .int .i64 0, .bool false]) ?_ 1 _ rfl; (with_reducible repeat apply pK); refine blk_put (cs := #[.bool false, .bool false, .int .i64 0, .bool false]) ?_ 0 _ rfl; (with_reducible repeat apply pK); exact d.out) Tryz.underlying53 rfl (by kernel_rfl)) rfl ?_
   exact ⟨er_, bl_⟩
  rw [if_neg Q] at H
  exact absurd H (by simp)
 rw [if_neg P] at H
 exact absurd H (by simp)

/-! ### shutterref11_Open: function 34 -/
def shutterref11_Open.f (k : Nat) (c d : Int) (a : List (S55)) (e : Int) (g h : Bool) (a1 : Int) : Option (Bool) := if 0 ≤ a1 then (if a1 < (a.length : Int) then (if ((rd_T55 a a1).f0 = true) then (some false) else ((shutterref11_Of.f k c d a e g h a1).bind fun b => (some (!b.1)))) else (none)) else (none)
theorem shutterref11_Open.mono : ∀ a0 a1 a b a4 c d k, LeO (shutterref11_Open.f k a0 a1 a b a4 c d) (shutterref11_Open.f (k + 1) a0 a1 a b a4 c d) := by
 intro a0 a1 a b a4 c d k
 unfold shutterref11_Open.f
 repeat' first
   | (with_reducible exact shutterref11_Of.mono _ _ _ _ _ _ _ _)
   | (with_reducible exact LeO.refl _)
   | (with_reducible exact LeO.none _)
   | (with_reducible refine LeO.ite ?_ ?_)
   | (with_reducible refine LeO.bind ?_ (fun _ => ?_))
   | exact shutterref11_Of.mono _ _ _ _ _ _ _ _
   | exact LeO.none _
   | refine LeO.ite ?_ ?_
   | refine LeO.bind ?_ (fun _ => ?_)
theorem shutterref11_Open.calls (k : Nat) (m n : Int) (B : Option Addr) (E : Nat) (a : List (S55)) (o : Int) (p q : Bool) (a1 : Int) (r : Bool) (w : World) (L : Kd.C k55 w B a.length a) (K : a.length ≤ E) (h : shutterref11_Open.f k m n a o p q a1 = some r) :
  Calls Tryz.prog 34 #[.agg #[.int .i64 m, .int .i64 n, .slice B a.length E, .int .i64 o, .bool p, .bool q], .int .i64 a1] w fun e w' => e = .returned (.bool r) ∧ Below w.heap.size w w' := by
 have aB := Tryz.underlying24
 have aC := Tryz.underlying53
 have D := Z L
 have Q := Z K
 clear L K
 have HB := Z (Below.refl w.heap.size w)
 unfold shutterref11_Open.f at h
 have H := h
 clear h
 obtain ⟨c3, H⟩ := gt_ H
 have az := decide_eq_true c3
 clear c3
 obtain ⟨c4, H⟩ := gt_ H
 have aA := decide_eq_true c4
 clear c4
 obtain ⟨T, J⟩ : ∃ b_ : Bool, b_ = ((rd_T55 a a1).f0) := ⟨_, rfl⟩
 replace H : (if (T = true) then (some false) else ((shutterref11_Of.f k m n a o p q a1).bind fun x => (some (!x.1)))) = some r := by rw [← J] at H; exact H
 have l := Z J
 clear J
 by_cases c6 : (T = true)
 ·subst c6
  rw [if_pos rfl] at H
  obtain rfl := Option.some.inj H
  go_enter Tryz.func34, Tryz.ntmps34
  go_wp2_with (first | ((with_reducible refine gD_ 2 rfl ?_); refine bx_ 2 24 #[.int .i64 m, .int .i64 n, .slice B a.length E, .int .i64 o, .bool p, .bool q] ?_; intro y hg w7 hbox hb; have s := Z hbox; have P := ln' w hg; replace HB := bs_ hb; clear hb hbox hg; have ak := cells6 s.out; have u : 0 ≤ (a1 : Int) := od_; have v : a1 < (a.length : Int) := od_; obtain ⟨R, I, b, c, d, i, g, j⟩ := at_T55 D.out a1 u v; (try rw [← l.out] at b); (try rw [← l.out] at c); (try rw [← l.out] at d); (try rw [← l.out] at g); cases I; replace b := (HB.out.cell (bk_ w _ b)).trans b; replace c := (HB.out.cell (bk_ w _ c)).trans c; replace d := (HB.out.cell (bk_ w _ d)).trans d; replace i := (HB.out.cell (bk_ w _ i)).trans i; replace g := (HB.out.cell (bk_ w _ g)).trans g; replace j := (HB.out.cell (bk_ w _ j)).trans j; replace u := eq_true u; replace v := eq_true v))
  go_ret
  exact ⟨er_, bl_⟩
 replace c6 := Bool.eq_false_iff.mpr c6
 subst c6
 rw [iF_] at H
 replace H := bn_ H
 obtain ⟨⟨M, U, V, W⟩, A9, H⟩ := H
 try dsimp only at H
 obtain rfl := Option.some.inj H
 go_enter Tryz.func34, Tryz.ntmps34
 go_wp2_with (first | ((with_reducible refine gD_ 2 rfl ?_); refine bx_ 2 24 #[.int .i64 m, .int .i64 n, .slice B a.length E, .int .i64 o, .bool p, .bool q] ?_; intro y hg aE hbox hb; have s := Z hbox; have P := ln' w hg; replace HB := bs_ hb; clear hb hbox hg; have X := cells6 s.out; have u : 0 ≤ (a1 : Int) := od_; have v : a1 < (a.length : Int) := od_; obtain ⟨R, I, b, c, d, i, g, j⟩ := at_T55 D.out a1 u v; (try rw [← l.out] at b); (try rw [← l.out] at c); (try rw [← l.out] at d); (try rw [← l.out] at g); cases I; replace b := (HB.out.cell (bk_ w _ b)).trans b; replace c := (HB.out.cell (bk_ w _ c)).trans c; replace d := (HB.out.cell (bk_ w _ d)).trans d; replace i := (HB.out.cell (bk_ w _ i)).trans i; replace g := (HB.out.cell (bk_ w _ g)).trans g; replace j := (HB.out.cell (bk_ w _ j)).trans j; replace u := eq_true u; replace v := eq_true v) | (go_at_call 64; (with_reducible refine (shutterref11_Of.calls k m n _ _ a o p q a1 M U V W _ ?side1 ?side2 A9.out).mono ?_); (case side1 => repeat (first | exact (Kd.C_below D.out HB.out) | (with_reducible apply pC))); (case side2 => exact Q.out); rintro e aF ⟨rfl, hb⟩; replace s := kb' s hb; replace HB := bs_ hb; (try clear hb)))
 go_ret
 exact ⟨er_, bl_⟩

/-! ### shutterref09_Letter: function 76 -/
def shutterref09_Letter.f (a0 : Int) : Option (Bool) := if a0 = 0 then (some false) else ((shutterref05_Char.f a0).bind fun a => (some a))
theorem shutterref09_Letter.calls (a0 : Int) (r : Bool) (w : World) (h : shutterref09_Letter.f a0 = some r) :
  Calls Tryz.prog 76 #[.int .u8 a0] w fun e w' => e = .returned (.bool r) ∧ Drawn0 w w' := by
 unfold shutterref09_Letter.f at h
 have H := h
 clear h
 by_cases c2 : a0 = 0
 ·rw [if_pos c2] at H
  obtain ⟨c, d⟩ := eT_ c2
  clear c2
  obtain rfl := Option.some.inj H
  go_enter Tryz.func76, Tryz.ntmps76
  go_wp2
  go_ret
  exact ⟨dn_, dr_⟩
 rw [if_neg c2] at H
 obtain ⟨c, d⟩ := eF_ c2
 replace H := bn_ H
 obtain ⟨a, g, H⟩ := H
 obtain rfl := Option.some.inj H
 go_enter Tryz.func76, Tryz.ntmps76
 go_wp2_with (first | (go_at_call 57; (with_reducible refine (shutterref05_Char.calls a0 a _ g.out).mono ?_); rintro e w' ⟨rfl, ⟨nd, rfl⟩⟩))
 go_ret
 exact ⟨dn_, dr_⟩

/-! ### shutterref14_Deny: function 77 -/
def shutterref14_Deny.f (b c : Int) (h : List (S55)) (d : Int) (e g : Bool) : Option (Int × Int × (List (S55)) × Int × Bool × Bool) := (shutterref10_Copy.f b c h d e g).bind fun a => (some (a.1, a.2.1, a.2.2.1, a.2.2.2.1, true, a.2.2.2.2.2))
theorem shutterref14_Deny.calls (E F : Int) (M : Option Addr) (O : Nat) (z : List (S55)) (G : Int) (I J : Bool) (r1 r2 : Int) (r3 : List (S55)) (r4 : Int) (r5 r6 : Bool) (w : World) (aa : Kd.C k55 w M z.length z) (Y : z.length ≤ O) (h : shutterref14_Deny.f E F z G I J = some (r1, r2, r3, r4, r5, r6)) :
  Calls Tryz.prog 77 #[.agg #[.int .i64 E, .int .i64 F, .slice M z.length O, .int .i64 G, .bool I, .bool J]] w fun e w' => ∃ ap : Value, e = .returned (.agg #[.int .i64 r1, .int .i64 r2, ap, .int .i64 r4, .bool r5, .bool r6]) ∧ Kd.R k55 55 w' w.heap.size (fun _ => True) ap r3 ∧ Below w.heap.size w w' := by
 have bs := Tryz.underlying24
 have ad := Z aa
 have ac := Z Y
 clear aa Y
 have HB := Z (Below.refl w.heap.size w)
 unfold shutterref14_Deny.f at h
 have H := h
 clear h
 replace H := bn_ H
 obtain ⟨⟨k, m, i, y, S, A⟩, A2, H⟩ := H
 try dsimp only at H
 obtain ⟨rfl, rfl, rfl, rfl, rfl, rfl⟩ := ij6_ H
 go_enter Tryz.func77, Tryz.ntmps77
 go_wp2_with (first | ((with_reducible refine gD_ 1 rfl ?_); refine bx_ 1 24 #[.int .i64 E, .int .i64 F, .slice M z.length O, .int .i64 G, .bool I, .bool J] ?_; intro P hg w3 hbox hb; have a := Z hbox; have bi := ln' w hg; replace HB := bs_ hb; clear hb hbox hg) | ((with_reducible refine gD_ 2 rfl ?_); refine bx_ 2 24 zS_ ?_; intro c hg w4 hbox hb; have b := Z hbox; have bj := ln' w hg; replace HB := bs_ hb; have d := nl' a hg; replace a := kb' a hb; clear hb hbox hg; have bo := ns_ d; have a3 := cells6 a.out) | ((with_reducible refine gF_ 32 rfl ?_); refine gd_ (some 5) Tryz.func32 (shutterref10_Copy.calls E F _ _ z G I J k m i y S A _ (cB_ ad HB) ac.out A2.out) ?_; rintro e w7 ⟨bt, rfl, al, hb⟩; refine ⟨_, rfl, ?_⟩; have l := Z (Kd.R_lower al (below_size bl_)); replace a := kb' a hb; replace b := kb' b hb; replace HB := bs_ hb; (try clear hb); (try clear hk); (try clear al)) | ((with_reducible refine gD_ 3 rfl ?_); refine bx_ 3 24 zS_ ?_; intro j hg w8 hbox hb; replace l := rb' l hb; have q := Z hbox; have bk := ln' w hg; replace HB := bs_ hb; have B := nl' a hg; replace a := kb' a hb; have D := nl' b hg; replace b := kb' b hb; clear hb hbox hg; have bp := ns_ B; have bl := ns_ D; have ar := cells6 q.out; obtain ⟨n, o, aq⟩ := Kd.R_slice l.out; subst aq) | ((with_reducible refine gate_store (t := 24) (p := 3) rfl ?_); refine sx_ 24 3 ((((((w8.setCell ⟨j, 0, none⟩ (.int .i64 k)).setCell ⟨j, 1, none⟩ (.int .i64 m)).setCell ⟨j, 2, none⟩ (.slice n i.length o)).setCell ⟨j, 3, none⟩ (.int .i64 y)).setCell ⟨j, 4, none⟩ (.bool S)).setCell ⟨j, 5, none⟩ (.bool A)) ?_; intro Q hw; replace l : Aside0 (Kd.R k55 55 Q w.heap.size (fun _ => True) (.slice n i.length o) i) := ⟨(by rw [hw]; exact (by (with_reducible repeat apply pR); exact R_off l.out q.out (by decide) off2_))⟩; replace a := Z (sM hw (blk_off a.out B.out off2_)); replace b := Z (sM hw (blk_off b.out D.out off2_)); replace q : Aside0 (Q.heap[j]? = some (.cells #[.int .i64 k, .int .i64 m, .slice n i.length o, .int .i64 y, .bool S, .bool A] 24 (0, 0))) := ⟨by rw [hw]; exact (put6 q.out)⟩; replace HB : Aside0 (Below w.heap.size w Q) := ⟨by rw [hw]; exact bl_⟩; clear hw; have az := cells6 q.out; have aF := cells6 b.out) | ((with_reducible refine gate_store (t := 24) (p := 2) rfl ?_); refine sx_ 24 2 (((((((Q.setCell ⟨j, 4, none⟩ (.bool true)).setCell ⟨c, 0, none⟩ (.int .i64 k)).setCell ⟨c, 1, none⟩ (.int .i64 m)).setCell ⟨c, 2, none⟩ (.slice n i.length o)).setCell ⟨c, 3, none⟩ (.int .i64 y)).setCell ⟨c, 4, none⟩ (.bool true)).setCell ⟨c, 5, none⟩ (.bool A)) ?_; intro X hw; replace l : Aside0 (Kd.R k55 55 X w.heap.size (fun _ => True) (.slice n i.length o) i) := ⟨(by rw [hw]; exact (by (with_reducible repeat apply pR); exact Kd.R_mono (f6R c (Kd.R_far (p := ⟨j, 4, none⟩) (Kd.R_types (Kd.R_types l.out q.out (by decide)) b.out (by decide)) (fun _ hk => hk.1.2) (.bool true)) (fun _ hk => hk.2)) (fun _ hk => trivial)))⟩; replace a : Aside0 (X.heap[P]? = some (.cells #[.int .i64 E, .int .i64 F, .slice M z.length O, .int .i64 G, .bool I, .bool J] 24 (0, 0))) := ⟨(by rw [hw]; exact (by (with_reducible repeat apply pK); refine blk_far ?_ d.out _; (with_reducible repeat apply pK); refine blk_far ?_ d.out _; (with_reducible repeat apply pK); refine blk_far ?_ d.out _; (with_reducible repeat apply pK); refine blk_far ?_ d.out _; (with_reducible repeat apply pK); refine blk_far ?_ d.out _; (with_reducible repeat apply pK); refine blk_far ?_ d.out _; (with_reducible repeat apply pK); refine blk_far ?_ B.out _; (with_reducible repeat apply pK); exact a.out))⟩; replace b : Aside0 (X.heap[c]? = some (.cells #[.int .i64 k, .int .i64 m, .slice n i.length o, .int .i64 y, .bool true, .bool A] 24 (0, 0))) := ⟨(by rw [hw]; exact (put6 (by (with_reducible repeat apply pK); refine blk_far ?_ D.out _; (with_reducible repeat apply pK); exact b.out)))⟩; replace q : Aside0 (X.heap[j]? = some (.cells #[.int .i64 k, .int .i64 m, .slice n i.length o, .int .i64 y, .bool true, .bool A] 24 (0, 0))) := ⟨(by rw [hw]; exact (by (with_reducible repeat apply pK); refine blk_far ?_ D.out.symm _; (with_reducible repeat apply pK); refine blk_far ?_ D.out.symm _; (with_reducible repeat apply pK); refine blk_far ?_ D.out.symm _; (with_reducible repeat apply pK); refine blk_far ?_ D.out.symm _; (with_reducible repeat apply pK); refine blk_far ?_ D.out.symm _; (with_reducible repeat apply pK); refine blk_far ?_ D.out.symm _; (with_reducible repeat apply pK); refine blk_put (cs := #[.int .i64 k, .int .i64 m, .slice n i.length o, .int .i64 y, .bool S, .bool A]) ?_ 4 _ rfl; (with_reducible repeat apply pK); exact q.out))⟩; replace HB : Aside0 (Below w.heap.size w X) := ⟨by rw [hw]; exact bl_⟩; clear hw))
 refine rc1_ (vK b.out) Tryz.underlying24 ?_
 exact ⟨_, er_, by (with_reducible repeat apply pR); exact l.out, bl_⟩

/-! ### shutterref14_Digit: function 78 -/
def shutterref14_Digit.f (a0 : Int) : Option (Bool) := if a0 ≥ 240 then (if a0 ≤ 249 then (some true) else (if a0 = 96 then (some true) else (some (a0 == 75)))) else (if a0 = 96 then (some true) else (some (a0 == 75)))
theorem shutterref14_Digit.calls (a0 : Int) (r : Bool) (w : World) (h : shutterref14_Digit.f a0 = some r) :
  Calls Tryz.prog 78 #[.int .u8 a0] w fun e w' => e = .returned (.bool r) ∧ Drawn0 w w' := by
 unfold shutterref14_Digit.f at h
 have H := h
 clear h
 by_cases c2 : a0 ≥ 240
 ·rw [if_pos c2] at H
  have a : decide (240 ≤ a0) = true := decide_eq_true c2
  clear c2
  by_cases c3 : a0 ≤ 249
  ·rw [if_pos c3] at H
   have b := decide_eq_true c3
   clear c3
   obtain rfl := Option.some.inj H
   go_enter Tryz.func78, Tryz.ntmps78
   go_wp2
   go_ret
   exact ⟨dn_, dr_⟩
  rw [if_neg c3] at H
  have b := decide_eq_false c3
  clear c3
  by_cases c4 : a0 = 96
  ·rw [if_pos c4] at H
   obtain ⟨c, d⟩ := eT_ c4
   clear c4
   obtain rfl := Option.some.inj H
   go_enter Tryz.func78, Tryz.ntmps78
   go_wp2
   go_ret
   exact ⟨dn_, dr_⟩
  rw [if_neg c4] at H
  obtain ⟨c, d⟩ := eF_ c4
  obtain rfl := Option.some.inj H
  go_enter Tryz.func78, Tryz.ntmps78
  go_wp2
  go_ret
  exact ⟨dn_, dr_⟩
 rw [if_neg c2] at H
 have a : decide (240 ≤ a0) = false := decide_eq_false c2
 clear c2
 by_cases c5 : a0 = 96
 ·rw [if_pos c5] at H
  obtain ⟨g, i⟩ := eT_ c5
  clear c5
  obtain rfl := Option.some.inj H
  go_enter Tryz.func78, Tryz.ntmps78
  go_wp2
  go_ret
  exact ⟨dn_, dr_⟩
 rw [if_neg c5] at H
 obtain ⟨g, i⟩ := eF_ c5
 obtain rfl := Option.some.inj H
 go_enter Tryz.func78, Tryz.ntmps78
 go_wp2
 go_ret
 exact ⟨dn_, dr_⟩

/-! ### shutterref14_Modify: function 79 -/
def shutterref14_Modify.f (k : Nat) (c d : Int) (i : List (S55)) (e : Int) (g h : Bool) (a1 : Int) : Option (Int × Int × (List (S55)) × Int × Bool × Bool) := (shutterref10_Copy.f c d i e g h).bind fun a => ((shutterref11_Begin.f k c d i e g h a1).bind fun b => (if b ≥ 0 then (if 0 ≤ b then (if b < (a.2.2.1.length : Int) then (some (a.1, a.2.1, (a.2.2.1.set (b : Int).toNat (⟨(rd_T55 a.2.2.1 b).f0, (⟨(rd_T55 a.2.2.1 b).f1.f0, (rd_T55 a.2.2.1 b).f1.f1, (rd_T55 a.2.2.1 b).f1.f2, true⟩ : S53), (rd_T55 a.2.2.1 b).f2⟩ : S55)), a.2.2.2.1, a.2.2.2.2.1, a.2.2.2.2.2)) else (none)) else (none)) else (some (a.1, a.2.1, a.2.2.1, a.2.2.2.1, a.2.2.2.2.1, a.2.2.2.2.2))))
theorem shutterref14_Modify.mono : ∀ a0 a1 a b a4 c d k, LeO (shutterref14_Modify.f k a0 a1 a b a4 c d) (shutterref14_Modify.f (k + 1) a0 a1 a b a4 c d) := by
 intro a0 a1 a b a4 c d k
 unfold shutterref14_Modify.f
 repeat' first
   | (with_reducible exact shutterref11_Begin.mono _ _ _ _ _ _ _ _)
   | (with_reducible exact LeO.refl _)
   | (with_reducible exact LeO.none _)
   | (with_reducible refine LeO.ite ?_ ?_)
   | (with_reducible refine LeO.bind ?_ (fun _ => ?_))
   | exact shutterref11_Begin.mono _ _ _ _ _ _ _ _
   | exact LeO.none _
   | refine LeO.ite ?_ ?_
   | refine LeO.bind ?_ (fun _ => ?_)
theorem shutterref14_Modify.calls (k : Nat) (z A : Int) (Q : Option Addr) (S : Nat) (y : List (S55)) (B : Int) (D E : Bool) (a1 r1 r2 : Int) (r3 : List (S55)) (r4 : Int) (r5 r6 : Bool) (w : World) (aw : Kd.C k55 w Q y.length y) (ar : y.length ≤ S) (h : shutterref14_Modify.f k z A y B D E a1 = some (r1, r2, r3, r4, r5, r6)) :
  Calls Tryz.prog 79 #[.agg #[.int .i64 z, .int .i64 A, .slice Q y.length S, .int .i64 B, .bool D, .bool E], .int .i64 a1] w fun e w' => ∃ aZ : Value, e = .returned (.agg #[.int .i64 r1, .int .i64 r2, aZ, .int .i64 r4, .bool r5, .bool r6]) ∧ Kd.R k55 55 w' w.heap.size (fun _ => True) aZ r3 ∧ Below w.heap.size w w' := by
 have dQ := Tryz.underlying24
 have ah := Z aw
 have ag := Z ar
 clear aw ar
 have HB := Z (Below.refl w.heap.size w)
 unfold shutterref14_Modify.f at h
 have H := h
 clear h
 replace H := bn_ H
 obtain ⟨⟨F, G, b, I, J, K⟩, A3, H⟩ := H
 try dsimp only at H
 replace H := bn_ H
 obtain ⟨a, A4, H⟩ := H
 by_cases c5 : a ≥ 0
 rotate_left
 ·rw [if_neg c5] at H
  have a0 : decide (0 ≤ a) = false := decide_eq_false c5
  clear c5
  obtain ⟨rfl, rfl, rfl, rfl, rfl, rfl⟩ := ij6_ H
  go_enter Tryz.func79, Tryz.ntmps79
  go_wp2_with (first | ((with_reducible refine gD_ 2 rfl ?_); refine bx_ 2 24 #[.int .i64 z, .int .i64 A, .slice Q y.length S, .int .i64 B, .bool D, .bool E] ?_; intro U hg dY hbox hb; have c := Z hbox; have aP := ln' w hg; replace HB := bs_ hb; clear hb hbox hg) | ((with_reducible refine gD_ 4 rfl ?_); refine bx_ 4 24 zS_ ?_; intro l hg dZ hbox hb; have d := Z hbox; have aQ := ln' w hg; replace HB := bs_ hb; have V := nl' c hg; replace c := kb' c hb; clear hb hbox hg; have dy := ns_ V; have bI := cells6 c.out) | ((with_reducible refine gF_ 32 rfl ?_); refine gd_ (some 8) Tryz.func32 (shutterref10_Copy.calls z A _ _ y B D E F G b I J K _ (cB_ ah HB) ag.out A3.out) ?_; rintro e d0 ⟨a6, rfl, am, hb⟩; refine ⟨_, rfl, ?_⟩; have i := Z (Kd.R_lower am (below_size bl_)); replace c := kb' c hb; replace d := kb' d hb; replace HB := bs_ hb; (try clear hb); (try clear hk); (try clear am)) | ((with_reducible refine gD_ 5 rfl ?_); refine bx_ 5 24 zS_ ?_; intro m hg d1 hbox hb; replace i := rb' i hb; have u := Z hbox; have aR := ln' w hg; replace HB := bs_ hb; have O := nl' c hg; replace c := kb' c hb; have P := nl' d hg; replace d := kb' d hb; clear hb hbox hg; have dz := ns_ O; have dA := ns_ P; have bO := cells6 u.out; obtain ⟨aj, ak, a3⟩ := Kd.R_slice i.out; subst a3; have bU := cells6 c.out) | ((with_reducible refine gF_ 106 rfl ?_); refine gd_ (some 11) Tryz.func106 (shutterref11_Begin.calls k z A _ _ y B D E a1 a _ (Kd.C_below ah.out bl_) ag.out A4.out) ?_; rintro e d2 ⟨rfl, hb⟩; refine ⟨_, rfl, ?_⟩; replace i := Z (Kd.R_below (by (with_reducible repeat apply pR); exact (Kd.R_mono (f6R m (Kd.R_types i.out u.out (by decide)) (fun _ hk => hk.2)) (fun _ h_ => h_.1))) hb); replace c := Z (blk_below (g := U) (o := .cells #[.int .i64 z, .int .i64 A, .slice Q y.length S, .int .i64 B, .bool D, .bool E] 24 (0, 0)) (blk_off c.out O.out off2_) hb); replace d := Z (blk_below (g := l) (o := .cells zS_ 24 (0, 0)) (blk_off d.out P.out off2_) hb); replace u := Z (blk_below (g := m) (o := .cells #[.int .i64 F, .int .i64 G, .slice aj b.length ak, .int .i64 I, .bool J, .bool K] 24 (0, 0)) (put6 u.out) hb); replace HB := bs_ hb; (try clear hb); (try clear hk); have b0 := cells6 u.out; have b6 := cells6 d.out))
  refine rc1_ (put6 d.out) Tryz.underlying24 ?_
  exact ⟨_, er_, by (with_reducible repeat apply pR); exact Kd.R_mono (f6R l (Kd.R_types i.out d.out (by decide)) im_) im_, bl_⟩
 rw [if_pos c5] at H
 have a0 : decide (0 ≤ a) = true := decide_eq_true c5
 clear c5
 obtain ⟨c6, H⟩ := gt_ H
 have dN := decide_eq_true c6
 clear c6
 by_cases c7 : a < (b.length : Int)
 ·rw [if_pos c7] at H
  have dO := decide_eq_true c7
  clear c7
  obtain ⟨aL, af⟩ : ∃ y_ : List (S55), y_ = (b.set (a : Int).toNat (⟨(rd_T55 b a).f0, (⟨(rd_T55 b a).f1.f0, (rd_T55 b a).f1.f1, (rd_T55 b a).f1.f2, true⟩ : S53), (rd_T55 b a).f2⟩ : S55)) := ⟨_, rfl⟩
  replace H : (some (F, G, aL, I, J, K)) = some (r1, r2, r3, r4, r5, r6) := by first | (rw [af]; with_reducible exact H) | (have aE := (Option.bind_some _ _).symm.trans H; rw [af]; with_reducible exact aE) | (have aE := (Option.bind_some _ _).symm.trans H; with_reducible exact aE) | with_reducible exact H | (rw [af]; exact H) | exact H
  have aS := Z af
  clear af
  obtain ⟨rfl, rfl, rfl, rfl, rfl, rfl⟩ := ij6_ H
  go_enter Tryz.func79, Tryz.ntmps79
  go_wp2_with (first | ((with_reducible refine gD_ 2 rfl ?_); refine bx_ 2 24 #[.int .i64 z, .int .i64 A, .slice Q y.length S, .int .i64 B, .bool D, .bool E] ?_; intro U hg w9 hbox hb; have c := Z hbox; have aP := ln' w hg; replace HB := bs_ hb; clear hb hbox hg) | ((with_reducible refine gD_ 4 rfl ?_); refine bx_ 4 24 zS_ ?_; intro l hg dV hbox hb; have d := Z hbox; have aQ := ln' w hg; replace HB := bs_ hb; have V := nl' c hg; replace c := kb' c hb; clear hb hbox hg; have dv := ns_ V; have a7 := cells6 c.out) | ((with_reducible refine gF_ 32 rfl ?_); refine gd_ (some 8) Tryz.func32 (shutterref10_Copy.calls z A _ _ y B D E F G b I J K _ (cB_ ah HB) ag.out A3.out) ?_; rintro e dW ⟨a6, rfl, am, hb⟩; refine ⟨_, rfl, ?_⟩; have i := Z (Kd.R_lower am (below_size bl_)); replace c := kb' c hb; replace d := kb' d hb; replace HB := bs_ hb; (try clear hb); (try clear hk); (try clear am)) | ((with_reducible refine gD_ 5 rfl ?_); refine bx_ 5 24 zS_ ?_; intro m hg dX hbox hb; replace i := rb' i hb; have u := Z hbox; have aR := ln' w hg; replace HB := bs_ hb; have O := nl' c hg; replace c := kb' c hb; have P := nl' d hg; replace d := kb' d hb; clear hb hbox hg; have dw := ns_ O; have dx := ns_ P; have bd := cells6 u.out; obtain ⟨aD, ac, a2⟩ := Kd.R_slice i.out; subst a2; have bj := cells6 c.out) | ((with_reducible refine gF_ 106 rfl ?_); refine gd_ (some 11) Tryz.func106 (shutterref11_Begin.calls k z A _ _ y B D E a1 a _ (Kd.C_below ah.out bl_) ag.out A4.out) ?_; rintro e T ⟨rfl, hb⟩; refine ⟨_, rfl, ?_⟩; replace i := Z (Kd.R_below (by (with_reducible repeat apply pR); exact (Kd.R_mono (f6R m (Kd.R_types i.out u.out (by decide)) (fun _ hk => hk.2)) (fun _ h_ => h_.1))) hb); replace c := Z (blk_below (g := U) (o := .cells #[.int .i64 z, .int .i64 A, .slice Q y.length S, .int .i64 B, .bool D, .bool E] 24 (0, 0)) (blk_off c.out O.out off2_) hb); replace d := Z (blk_below (g := l) (o := .cells zS_ 24 (0, 0)) (blk_off d.out P.out off2_) hb); replace u := Z (blk_below (g := m) (o := .cells #[.int .i64 F, .int .i64 G, .slice aD b.length ac, .int .i64 I, .bool J, .bool K] 24 (0, 0)) (put6 u.out) hb); replace HB := bs_ hb; (try clear hb); (try clear hk); have bp := cells6 u.out; have p8 : 0 ≤ (a : Int) := od_; have q8 : (a : Int) < ((b.length : Int) : Int) := od_; obtain ⟨M, dU, aW, aX, dn, dT, aV⟩ := Kd.R_form i.out (by omega); (first | cases aW | (injection aW with ea_ en_ ec_; (first | subst ea_ | (injection ea_ with ea_; subst ea_)); subst ec_; clear en_)); have dm := Z aX; have dR := Z aV; clear aX dn aV; obtain ⟨dS, a4, aY, ad, ae⟩ := Kd.R_elem i.out z55 (a : Int) p8 q8; obtain rfl := k55_openM aY; have dH := ce_ ad; have dp := cf_ ae; clear a4 ad ae aY; replace p8 := eq_true p8; replace q8 := eq_true q8; have aF := Z (show Kd.R k55 55 T w.heap.size (fun _ => True) (.slice (some ⟨M, 0, none⟩) b.length ac) b from (by (with_reducible repeat apply pR); exact i.out)); obtain ⟨dP, au, aG, al, av⟩ := Kd.R_elem aF.out z55 (a : Int) (od_) (by have h_ : (a : Int) < ((b.length : Int) : Int) := od_; first | exact h_ | (have e_ := (Kd.R_reads' i.out).1; omega) | simpa using h_); obtain rfl := k55_openM aG; have aq := Kd.R_seg aF.out (a : Int) (od_) (by have h_ : (a : Int) < ((b.length : Int) : Int) := od_; first | exact h_ | (have e_ := (Kd.R_reads' i.out).1; omega) | simpa using h_) (seg := [.bool true]) (j := 4) au al (show 5 ≤ 6 from by decide) (x' := (⟨(rd_T55 b a).f0, (⟨(rd_T55 b a).f1.f0, (rd_T55 b a).f1.f1, (rd_T55 b a).f1.f2, true⟩ : S53), (rd_T55 b a).f2⟩ : S55)) (k55_mkM _ _ _ (⟨(rd_T55 b a).f0, (⟨(rd_T55 b a).f1.f0, (rd_T55 b a).f1.f1, (rd_T55 b a).f1.f2, true⟩ : S53), (rd_T55 b a).f2⟩ : S55) ) (fun _ hk => hk); have aJ := al 4 _ rfl; (try simp only [show (k55).sz = 6 from rfl, Nat.mul_one, Nat.add_zero] at aJ); have aI := av 4; (try simp only [show (k55).sz = 6 from rfl, Nat.mul_one, Nat.add_zero] at aI); clear au al av aG) | ((with_reducible refine gate_store (t := 4) (p := 19) rfl ?_); refine sx_ 4 19 (T.setCell ⟨M, (a : Int).toNat * 6 + 4, none⟩ (.bool true)) ?_; intro aK hw; have hg : T.grownBy aK (some M) := (by rw [hw]; exact aq.2); have hp_ : Kd.R k55 55 aK w.heap.size (fun _ => True) (.slice (some ⟨M, 0, none⟩) b.length ac) aL := (by rw [hw, aS.out]; exact aq.1); clear aq; replace c := gw_ ⟨vK c.out⟩ hg (Kd.R_ne i.out c.out (by decide)); replace d := gw_ ⟨vK d.out⟩ hg (Kd.R_ne i.out d.out (by decide)); replace u := gw_ ⟨vK u.out⟩ hg (Kd.R_ne i.out u.out (by decide)); replace i := Z (hp_); replace HB := Z ((by rw [hw]; exact below_set (HB.out) dm.out : Below w.heap.size w aK)); clear hg hw hp_; have bv := cells6 u.out; have bC := cells6 d.out))
  refine rc1_ (put6 d.out) Tryz.underlying24 ?_
  exact ⟨_, er_, by (with_reducible repeat apply pR); exact Kd.R_mono (f6R l (Kd.R_types i.out d.out (by decide)) im_) im_, bl_⟩
 rw [if_neg c7] at H
 exact absurd H (by simp)

end Go.Proofs.YtjpedimndkibnaaGreatDoor.P
