/- pp.py and press2.py (wip/tools) wrote this text. -/
import Derived.Test.YtjpedimndkibnaaGreatDoorPx0
import Derived.Test.YtjpedimndkibnaaGreatDoorPxS
import Derived.Test.YtjpedimndkibnaaGreatDoorPxT
import Derived.Test.YtjpedimndkibnaaGreatDoorPx6
import Derived.Test.YtjpedimndkibnaaGreatDoorPx7
namespace Go.Proofs.YtjpedimndkibnaaGreatDoor.P
open Go.RowKit Go.Proofs.YtjpedimndkibnaaGreatDoorW.PrintWords Go.Proofs.YtjpedimndkibnaaGreatDoorW.PrintLast Go.Proofs.YtjpedimndkibnaaGreatDoorW.PrintMore
attribute [local go_sem] max2_int min2_int max_two min_two max_three min_three max_four min_four
attribute [local go_sem] Instr.field asAgg
set_option linter.unusedVariables false
set_option linter.unusedSimpArgs false
set_option maxHeartbeats 8000000
set_option maxRecDepth 100000

/-! ### grid_Span: function 98 -/
def grid_Span.l0 : Nat → Int → List Int → Int → Int → Int → List (S55) → Int → Bool → Bool → Option (List Int)
 | 0, _, _, _, _, _, _, _, _, _ => none
 | k + 1, l, h, j, b, c, a, d, e, g => if j = l then (some h) else (if (h.length : Int) < (a.length : Int) then (if h.length < 17592186044416 then ((grid_On.f b c a d e g j 1).bind fun i => (grid_Span.l0 k l (h ++ [j]) i b c a d e g)) else (none)) else (some h))
def grid_Span.f (k : Nat) (a b : Int) (g : List (S55)) (c : Int) (d e : Bool) (a1 i : Int) : Option (List Int) := (grid_On.f a b g c d e a1 1).bind fun h => (grid_Span.l0 k i (([a1] : List Int)) h a b g c d e)
theorem grid_Span.mono_l : ∀ k, (∀ b c d e f g i j l, LeO (grid_Span.l0 k b c d e f g i j l) (grid_Span.l0 (k + 1) b c d e f g i j l))
 | 0 => fun _ _ _ _ _ _ _ _ _ r h => by simp [grid_Span.l0] at h
 | k + 1 => by
  have a := grid_Span.mono_l k
  ·intro b c d e f g i j l
   unfold grid_Span.l0
   repeat' first
   | (with_reducible exact a _ _ _ _ _ _ _ _ _)
   | (with_reducible exact LeO.refl _)
   | (with_reducible exact LeO.none _)
   | (with_reducible refine LeO.ite ?_ ?_)
   | (with_reducible refine LeO.bind ?_ (fun _ => ?_))
   | exact a _ _ _ _ _ _ _ _ _
   | exact LeO.none _
   | refine LeO.ite ?_ ?_
   | refine LeO.bind ?_ (fun _ => ?_)
theorem grid_Span.mono : ∀ a0 a1 b c a4 d e g k, LeO (grid_Span.f k a0 a1 b c a4 d e g) (grid_Span.f (k + 1) a0 a1 b c a4 d e g) := by
 intro a0 a1 b c a4 d e g k
 have a := grid_Span.mono_l k
 unfold grid_Span.f
 repeat' first
   | (with_reducible exact a _ _ _ _ _ _ _ _ _)
   | (with_reducible exact LeO.refl _)
   | (with_reducible exact LeO.none _)
   | (with_reducible refine LeO.ite ?_ ?_)
   | (with_reducible refine LeO.bind ?_ (fun _ => ?_))
   | exact a _ _ _ _ _ _ _ _ _
   | exact LeO.none _
   | refine LeO.ite ?_ ?_
   | refine LeO.bind ?_ (fun _ => ?_)
theorem grid_Span.calls (k : Nat) (d i : Int) (v : Option Addr) (x : Nat) (a : List (S55)) (j : Int) (l m : Bool) (a1 B : Int) (r : List Int) (w : World) (V : Kd.C k55 w v a.length a) (U : a.length ≤ x) (h : grid_Span.f k d i a j l m a1 B = some r) :
  Calls Tryz.prog 98 #[.agg #[.int .i64 d, .int .i64 i, .slice v a.length x, .int .i64 j, .bool l, .bool m], .int .i64 a1, .int .i64 B] w fun e w' => ∃ av : Value, e = .returned (av) ∧ Kd.R (Kd.int .i64) 3 w' w.heap.size (fun _ => True) av r ∧ Below w.heap.size w w' := by
 have bp := Tryz.underlying24
 have Q := Z V
 have P := Z U
 clear V U
 have HB := Z (Below.refl w.heap.size w)
 unfold grid_Span.f at h
 have H := h
 clear h
 obtain ⟨L, z⟩ : ∃ y_ : List Int, y_ = (([a1] : List Int)) := ⟨_, rfl⟩
 replace H : ((grid_On.f d i a j l m a1 1).bind fun y => (grid_Span.l0 k B L y d i a j l m)) = some r := by first | (rw [z]; with_reducible exact H) | (have I := (Option.bind_some _ _).symm.trans H; rw [z]; with_reducible exact I) | (have I := (Option.bind_some _ _).symm.trans H; with_reducible exact I) | with_reducible exact H | (rw [z]; exact H) | exact H
 have S := Z z
 clear z
 replace H := bn_ H
 obtain ⟨y, A4, H⟩ := H
 have H' := Z H
 clear H
 go_enter Tryz.func98, Tryz.ntmps98
 go_wp2_with (first | ((with_reducible refine gD_ 3 rfl ?_); (try (refine gate_guard (by rfl) ?_; dsimp only)); refine bx_ 3 24 #[.int .i64 d, .int .i64 i, .slice v a.length x, .int .i64 j, .bool l, .bool m] ?_; intro G hg w5 hbox hb; have c := Z hbox; have bl := ln' w hg; replace HB := bs_ hb; clear hb hbox hg) | ((with_reducible refine gD_ 10 rfl ?_); (try (refine gate_guard (by rfl) ?_; dsimp only)); refine Kd.R_lit (Kd.int .i64) _ 3 ?hg (N := 10) ?hd (xs := ([a1] : List Int)) (inner := [.int .i64 a1]) (ok := fun _ => True) (okp := fun _ => True) ?hr ?hp (fun _ hk => hk) trivial (Below.refl _ _) (Nat.le_refl _) (by simp) ?_; (case hd => rfl); (case hg => rfl); (case hr => first | (go_simp; done) | (go_simp; rfl)); (case hp => exact (Reps.one (show Kd.M (Kd.int .i64) _ _ _ a1 [.int .i64 a1] from rfl) (Reps.none _ _))); intro bq w6 K hb hg_ hnew_; clear hg_ hnew_; (first | rw [← S.out] at K | (simp only [Int.reduceToNat] at K; rw [← S.out] at K)); have E := Z (Kd.R_lower K (below_size bl_)); replace c := kb' c hb; replace HB := bs_ hb; clear hb K; have X := cells6 c.out) | ((with_reducible refine gF_ 125 rfl ?_); refine gd_ (some 13) Tryz.func125 (grid_On.calls d i _ _ a j l m a1 1 y _ (cB_ Q HB) P.out A4.out) ?_; rintro e w9 ⟨rfl, hb⟩; refine ⟨_, rfl, ?_⟩; replace E := rb' E hb; replace c := kb' c hb; replace HB := bs_ hb; (try clear hb); (try clear hk)))
 go_loopg [7, 8] k (fun kq v7 v8 w' => ∃ (p : List Int) (n : Int), v8 = .int .i64 n ∧ Aside0 (grid_Span.l0 kq B p n d i a j l m = some r) ∧ Aside0 (kq ≤ k) ∧ Aside0 (Kd.R (Kd.int .i64) 3 w' w.heap.size (fun _ => True) v7 p) ∧ Aside0 (w'.heap[G]? = some (.cells #[.int .i64 d, .int .i64 i, (.slice v a.length x), .int .i64 j, .bool l, .bool m] 24 (0, 0))) ∧ Aside0 (Below w.heap.size w w'))
 case atStart => exact ⟨(L), (y), (dn_), H', ⟨Nat.le_refl _⟩, ⟨by (with_reducible repeat apply pR); exact E.out⟩, ⟨vK c.out⟩, ⟨bl_⟩⟩
 case round =>
  clear H'
  try clear X
  obtain ⟨p, n, rfl, HA, ar, GA, c, HB⟩ := hrel
  cases gk with
  | zero => exact absurd HA.out (by simp [grid_Span.l0])
  | succ k1 =>
   have H := HA.out
   clear HA
   simp only [grid_Span.l0] at H
   by_cases c10 : n = B
   ·rw [if_pos c10] at H
    obtain ⟨am, an⟩ := eT_ c10
    clear c10
    obtain rfl := Option.some.inj H
    go_wp2
    go_ret
    exact ⟨_, er_, by (with_reducible repeat apply pR); exact GA.out, bl_⟩
   rw [if_neg c10] at H
   obtain ⟨am, an⟩ := eF_ c10
   by_cases D : (p.length : Int) < (a.length : Int)
   ·rw [if_pos D] at H
    have ao := decide_eq_true D
    have ap : decide (p.length < a.length) = true := decide_eq_true (Int.ofNat_lt.mp D)
    clear D
    obtain ⟨T, H⟩ := gt_ H
    have ak := Z T
    clear T
    obtain ⟨O, A⟩ : ∃ y_ : List Int, y_ = (p ++ [n]) := ⟨_, rfl⟩
    replace H : ((grid_On.f d i a j l m n 1).bind fun J => (grid_Span.l0 k1 B O J d i a j l m)) = some r := by first | (rw [A]; with_reducible exact H) | (have I := (Option.bind_some _ _).symm.trans H; rw [A]; with_reducible exact I) | (have I := (Option.bind_some _ _).symm.trans H; with_reducible exact I) | with_reducible exact H | (rw [A]; exact H) | exact H
    have al := Z A
    clear A
    replace H := bn_ H
    obtain ⟨J, bi, H⟩ := H
    have H' := Z H
    clear H
    obtain ⟨aw, ax, ay⟩ := Kd.R_slice GA.out
    subst ay
    have aA := cells6 c.out
    go_wp2_with (first | ((with_reducible refine gate_builtin (b := .append) (xs := #[.tmp 28, .tmp 30]) rfl ?_); (try (refine gate_guard (by rfl) ?_; dsimp only)); at_builtin; refine Kd.R_append (Kd.int .i64) (w0 := w) w.heap.size rfl (.tmp 28) (.tmp 30) 121 3 (.int .i64 0) 8 rfl Tryz.underlying121 info3 rfl (by decide) (by omega) (.slice aw p.length ax) p n [.int .i64 n] (fun _ => True) (fun _ => False) rfl rfl ?aP (fun _ hk => hk.elim) ?aF ?aO ?aB ?aS ?aL ?_; (case aP => exact rfl); (case aB => exact bl_); (case aF => exact (fun _ _ => trivial)); (case aO => exact (by (with_reducible repeat apply pR); exact GA.out)); (case aS => exact (below_size bl_)); (case aL => have := ak.out; omega); intro br bu ho hb hg hat; rw [← al.out] at ho; replace c := gw_ ⟨vK c.out⟩ hg (Kd.R_ne GA.out c.out (by decide)); replace HB := Z (hb); have F := Z (ho); clear GA; clear ho hb hg hat; have aI := cells6 c.out) | ((with_reducible refine gF_ 125 rfl ?_); refine gd_ (some 27) Tryz.func125 (grid_On.calls d i _ _ a j l m n 1 J _ (cB_ Q HB) P.out bi.out) ?_; rintro e bv ⟨rfl, hb⟩; refine ⟨_, rfl, ?_⟩; replace F := rb' F hb; replace c := kb' c hb; replace HB := bs_ hb; (try clear hb); (try clear hk)))
    go_roundg k1
    case measure => have := ar.out; omega
    case rel => exact ⟨(O), (J), (dn_), H', ⟨by have := ar.out; omega⟩, ⟨by (with_reducible repeat apply pR); exact F.out⟩, ⟨vK c.out⟩, ⟨bl_⟩⟩
   rw [if_neg D] at H
   have ao := decide_eq_false D
   have ap : decide (p.length < a.length) = false := decide_eq_false (fun h => D (Int.ofNat_lt.mpr h))
   clear D
   obtain rfl := Option.some.inj H
   obtain ⟨bn, bo, az⟩ := Kd.R_slice GA.out
   subst az
   have aR := cells6 c.out
   go_wp2
   go_ret
   exact ⟨_, er_, by (with_reducible repeat apply pR); exact GA.out, bl_⟩

/-! ### move_line: function 131 -/
def move_line.l0 : Nat → List Int → Int → Int → Int → Int → List (S55) → Int → Bool → Bool → Option (Int)
 | 0, _, _, _, _, _, _, _, _, _ => none
 | k + 1, i, j, h, a, b, c, d, e, g => if h < j then (if 0 ≤ h then (if h < (i.length : Int) then ((field_Open.f a b c d e g (rd i h)).bind fun l => (if l = true then (some (rd i h)) else (move_line.l0 k i j (wrap64 (h + 1)) a b c d e g))) else (none)) else (none)) else (some 0)
def move_line.f (k : Nat) (c a : Int) (g : List (S55)) (b : Int) (d e : Bool) : Option (Int) := if a = 0 then (none) else ((grid_On.f c a g b d e (wrap64 (b - (Int.tmod b a))) a).bind fun h => ((grid_Span.f k c a g b d e h h).bind fun i => (move_line.l0 k i (i.length : Int) 0 c a g b d e)))
theorem move_line.mono_l : ∀ k, (∀ b c d e f g i j l, LeO (move_line.l0 k b c d e f g i j l) (move_line.l0 (k + 1) b c d e f g i j l))
 | 0 => fun _ _ _ _ _ _ _ _ _ r h => by simp [move_line.l0] at h
 | k + 1 => by
  have a := move_line.mono_l k
  ·intro b c d e f g i j l
   unfold move_line.l0
   repeat' first
   | (with_reducible exact a _ _ _ _ _ _ _ _ _)
   | (with_reducible exact grid_Span.mono _ _ _ _ _ _ _ _ _)
   | (with_reducible exact LeO.refl _)
   | (with_reducible exact LeO.none _)
   | (with_reducible refine LeO.ite ?_ ?_)
   | (with_reducible refine LeO.bind ?_ (fun _ => ?_))
   | exact a _ _ _ _ _ _ _ _ _
   | exact grid_Span.mono _ _ _ _ _ _ _ _ _
   | exact LeO.none _
   | refine LeO.ite ?_ ?_
   | refine LeO.bind ?_ (fun _ => ?_)
theorem move_line.mono : ∀ a0 a1 b c a4 d k, LeO (move_line.f k a0 a1 b c a4 d) (move_line.f (k + 1) a0 a1 b c a4 d) := by
 intro a0 a1 b c a4 d k
 have a := move_line.mono_l k
 unfold move_line.f
 repeat' first
   | (with_reducible exact a _ _ _ _ _ _ _ _ _)
   | (with_reducible exact grid_Span.mono _ _ _ _ _ _ _ _ _)
   | (with_reducible exact LeO.refl _)
   | (with_reducible exact LeO.none _)
   | (with_reducible refine LeO.ite ?_ ?_)
   | (with_reducible refine LeO.bind ?_ (fun _ => ?_))
   | exact a _ _ _ _ _ _ _ _ _
   | exact grid_Span.mono _ _ _ _ _ _ _ _ _
   | exact LeO.none _
   | refine LeO.ite ?_ ?_
   | refine LeO.bind ?_ (fun _ => ?_)
def move_line.T1 : Bool × List (List Nat × List Nat) := (true, [([], []), ([], []), ([1], [1]), ([], []), ([3], [3]), ([], []), ([5], [5]), ([4, 6], [4, 6]), ([2, 7], [2, 7]), ([], []), ([9], [9]), ([0, 8, 10], [0, 8, 10]), ([11, 11, 0, 1, 2, 3, 4, 5, 6, 7, 8, 9, 10, 11], [11])])
def move_line.B1 : List Nat := [0, 0, 2, 0, 8, 0, 32, 120, 254, 0, 512, 2047, 4095]
theorem move_line.tab1 : rtab .any (opsOf Tryz.f131 1) = move_line.T1 := by kernel_rfl
theorem move_line.bits1 : waitsOk move_line.T1.2 move_line.B1 = true := by kernel_rfl
theorem move_line.calls (k : Nat) (l b : Int) (x : Option Addr) (y : Nat) (j : List (S55)) (g : Int) (m o : Bool) (r : Int) (w : World) (P : Kd.C k55 w x j.length j) (O : j.length ≤ y) (h : move_line.f k l b j g m o = some r) :
  Calls Tryz.prog 131 #[.agg #[.int .i64 l, .int .i64 b, .slice x j.length y, .int .i64 g, .bool m, .bool o]] w fun e w' => e = .returned (.int .i64 r) ∧ Below w.heap.size w w' := by
 have a9 := Tryz.underlying24
 have E := Z P
 have D := Z O
 clear P O
 have HB := Z (Below.refl w.heap.size w)
 unfold move_line.f at h
 have H := h
 clear h
 obtain ⟨c2, H⟩ := gf_ H
 obtain ⟨aA, aB⟩ := eF_ c2
 replace H := bn_ H
 obtain ⟨u, A3, H⟩ := H
 replace H := bn_ H
 obtain ⟨d, A4, H⟩ := H
 have H' := Z H
 clear H
 go_enter Tryz.func131, Tryz.ntmps131
 try go_wp2_with (first | ((with_reducible refine gD_ 1 rfl ?_); refine bx_ 1 24 #[.int .i64 l, .int .i64 b, .slice x j.length y, .int .i64 g, .bool m, .bool o] ?_; intro s hg w5 hbox hb; have a := Z hbox; have a4 := ln' w hg; replace HB := bs_ hb; clear hb hbox hg))
 replace a := Z (blk_drew a.out)
 replace HB := Z (below_drew1 HB.out)
 refine start_ (n := 13) (S := fun w' => w'.cell? ⟨s, 0, none⟩ = some (.int .i64 l) ∧ w'.cell? ⟨s, 1, none⟩ = some (.int .i64 b) ∧ w'.cell? ⟨s, 2, none⟩ = some (.slice x j.length y) ∧ w'.cell? ⟨s, 3, none⟩ = some (.int .i64 g) ∧ w'.cell? ⟨s, 4, none⟩ = some (.bool m) ∧ w'.cell? ⟨s, 5, none⟩ = some (.bool o)) (ds := []) (bv 13 0) (by kernel_rfl) rfl rfl ⟨(blk_cell a.out 0).trans rfl, (blk_cell a.out 1).trans rfl, (blk_cell a.out 2).trans rfl, (blk_cell a.out 3).trans rfl, (blk_cell a.out 4).trans rfl, (blk_cell a.out 5).trans rfl⟩ (fun hHeld => ?_); refine with_tabW move_line.tab1 move_line.bits1 (fun HT_ HW_ => ?_)
 generalize w5.drew = w6 at a HB hHeld ⊢
 refine pT_ HT_ 1 13 2 (some 7) ?_
 refine pT_ HT_ 3 13 10 (some 9) ?_
 refine pT_ HT_ 5 13 42 (some 11) ?_
 refine pT_ HT_ 9 13 554 (some 15) ?_
 refine tT_ HT_ HW_ hHeld 0 13 555 (some 6) ?_
 refine tT_ HT_ HW_ hHeld 2 13 559 (some 8) ?_
 refine tT_ HT_ HW_ hHeld 4 13 575 (some 10) ?_
 refine tT_ HT_ HW_ hHeld 6 13 639 (some 12) ?_
 refine pT_ HT_ 7 13 767 (some 13) ?_
 refine pT_ HT_ 8 13 1023 (some 14) ?_
 refine tT_ HT_ HW_ hHeld 10 13 2047 (some 16) ?_
 refine oT_ HT_ 11 13 4095 (some 17) (fun K hK => ?_)
 refine goes_ Tryz.func125 (by kernel_rfl) rfl #[.agg #[.int .i64 l, .int .i64 b, .slice x j.length y, .int .i64 g, .bool m, .bool o], .int .i64 (wrap64 (g - (Int.tmod g b))), .int .i64 b] (by rfl) rfl rfl ag_ ?_
 with_reducible refine (grid_On.calls l b _ _ j g m o (wrap64 (g - (Int.tmod g b))) b u _ ?side1 ?side2 A3.out).mono ?_
 (case side1 => repeat (first | exact (Kd.C_below E.out HB.out) | (with_reducible apply pC)))
 (case side2 => exact D.out)
 rintro e w7 ⟨rfl, hb⟩
 refine ⟨_, rfl, ?_⟩
 replace a := kb' a hb
 replace HB := bs_ hb
 (try clear hb)
 (try clear U)
 (try clear hk)
 (try clear hi)
 refine hK.out _ _ ⟨(blk_cell a.out 0).trans rfl, (blk_cell a.out 1).trans rfl, (blk_cell a.out 2).trans rfl, (blk_cell a.out 3).trans rfl, (blk_cell a.out 4).trans rfl, (blk_cell a.out 5).trans rfl⟩ (fun hHeld => ?_)
 clear hK K
 refine nA_ (some 17) ?_
 refine pT_ HT_ 12 13 8191 (some 3) ?_
 refine done_ (done_of HT_.out (by kernel_rfl)) ?_
 have V := cells6 a.out
 try go_wp2_with (first | ((with_reducible refine gF_ 98 rfl ?_); refine gd_ (some 21) Tryz.func98 (grid_Span.calls k l b _ _ j g m o u u d _ (cB_ E HB) D.out A4.out) ?_; rintro e w9 ⟨ba, rfl, ax, hb⟩; refine ⟨_, rfl, ?_⟩; have I := Z (Kd.R_lower ax (below_size bl_)); replace a := kb' a hb; replace HB := bs_ hb; (try clear hb); (try clear ax); obtain ⟨az, aC, aD⟩ := Kd.R_slice I.out; subst aD))
 go_loopg [23] k (fun kq a2 w' => ∃ (c : Int), a2 = .int .i64 c ∧ Aside0 (move_line.l0 kq d (d.length : Int) c l b j g m o = some r) ∧ Aside0 (kq ≤ k) ∧ Aside0 (Kd.R (Kd.int .i64) 3 w' w.heap.size (fun _ => True) (.slice az d.length aC) d) ∧ Aside0 (w'.heap[s]? = some (.cells #[.int .i64 l, .int .i64 b, (.slice x j.length y), .int .i64 g, .bool m, .bool o] 24 (0, 0))) ∧ Aside0 (Below w.heap.size w w'))
 case atStart => exact ⟨(0), (dn_), H', ⟨Nat.le_refl _⟩, ⟨by (with_reducible repeat apply pR); exact I.out⟩, ⟨vK a.out⟩, ⟨bl_⟩⟩
 case round =>
  clear H'
  try clear c2
  try clear aA
  try clear aB
  try clear V
  obtain ⟨c, rfl, HA, aw, GA, a, HB⟩ := hrel
  cases gk with
  | zero => exact absurd HA.out (by simp [move_line.l0])
  | succ k1 =>
   have H := HA.out
   clear HA
   simp only [move_line.l0] at H
   by_cases F : c < (d.length : Int)
   rotate_left
   ·rw [if_neg F] at H
    have ak := decide_eq_false F
    clear F
    obtain rfl := Option.some.inj H
    go_wp2
    go_ret
    exact ⟨er_, bl_⟩
   rw [if_pos F] at H
   have ak := decide_eq_true F
   clear F
   obtain ⟨J, H⟩ := gt_ H
   have a5 := decide_eq_true J
   clear J
   obtain ⟨L, H⟩ := gt_ H
   have a6 := decide_eq_true L
   clear L
   replace H := bn_ H
   obtain ⟨ai, ar, H⟩ := H
   by_cases M : ai = true
   ·subst M
    rw [if_pos rfl] at H
    obtain rfl := Option.some.inj H
    have A : 0 ≤ (c : Int) := od_
    have B : c < (d.length : Int) := od_
    obtain ⟨aj, G, Q⟩ := Kd.at_int (Kd.R_reads' GA.out).2.2 c A B
    cases G
    replace A := eq_true A
    replace B := eq_true B
    have aE := cells6 a.out
    go_wp2_with (first | ((with_reducible refine gF_ 53 rfl ?_); refine gd_ (some 29) Tryz.func53 (field_Open.calls l b _ _ j g m o (rd d c) true _ (cB_ E HB) D.out ar.out) ?_; rintro e bb ⟨rfl, hb⟩; refine ⟨_, rfl, ?_⟩; replace GA := rb' GA hb; replace a := kb' a hb; replace HB := bs_ hb; (try clear hb)))
    go_ret
    exact ⟨er_, bl_⟩
   replace M := Bool.eq_false_iff.mpr M
   subst M
   rw [iF_] at H
   have H' := Z H
   clear H
   have A : 0 ≤ (c : Int) := od_
   have B : c < (d.length : Int) := od_
   obtain ⟨aj, G, Q⟩ := Kd.at_int (Kd.R_reads' GA.out).2.2 c A B
   cases G
   replace A := eq_true A
   replace B := eq_true B
   have aK := cells6 a.out
   go_wp2_with (first | ((with_reducible refine gF_ 53 rfl ?_); refine gd_ (some 29) Tryz.func53 (field_Open.calls l b _ _ j g m o (rd d c) false _ (cB_ E HB) D.out ar.out) ?_; rintro e bc ⟨rfl, hb⟩; refine ⟨_, rfl, ?_⟩; replace GA := rb' GA hb; replace a := kb' a hb; replace HB := bs_ hb; (try clear hb)))
   go_roundg k1
   case measure => have := aw.out; omega
   case rel => exact ⟨(wrap64 (c + 1)), (dn_), H', ⟨by have := aw.out; omega⟩, ⟨by (with_reducible repeat apply pR); exact GA.out⟩, ⟨vK a.out⟩, ⟨bl_⟩⟩

/-! ### move_to: function 109 -/
def move_to.f (k : Nat) (d b : Int) (c : List (S55)) (a : Int) (e g : Bool) (a1 : Int) : Option (Int) := if a1 = 4 then ((grid_On.f d b c a e g a (wrap64 (-b))).bind fun h => (some h)) else (if a1 = 2 then ((grid_On.f d b c a e g a (-1)).bind fun i => (some i)) else (if a1 = 5 then ((grid_On.f d b c a e g a b).bind fun j => (some j)) else (if a1 = 3 then ((grid_On.f d b c a e g a 1).bind fun l => (some l)) else (if a1 = 7 then ((field_Prev.f d b c a e g a).bind fun p => (some (mx 0 p))) else (if a1 = 6 then ((field_Next.f d b c a e g a).bind fun m => (some (mx 0 m))) else (if a1 = 8 then ((field_Next.f d b c a e g (wrap64 ((c.length : Int) - 1))).bind fun n => (some (mx 0 n))) else ((move_line.f k d b c a e g).bind fun o => (some o))))))))
theorem move_to.mono : ∀ a0 a1 a b a4 c d k, LeO (move_to.f k a0 a1 a b a4 c d) (move_to.f (k + 1) a0 a1 a b a4 c d) := by
 intro a0 a1 a b a4 c d k
 unfold move_to.f
 repeat' first
   | (with_reducible exact move_line.mono _ _ _ _ _ _ _)
   | (with_reducible exact LeO.refl _)
   | (with_reducible exact LeO.none _)
   | (with_reducible refine LeO.ite ?_ ?_)
   | (with_reducible refine LeO.bind ?_ (fun _ => ?_))
   | exact move_line.mono _ _ _ _ _ _ _
   | exact LeO.none _
   | refine LeO.ite ?_ ?_
   | refine LeO.bind ?_ (fun _ => ?_)
theorem move_to.calls (k : Nat) (j c : Int) (o : Option Addr) (p : Nat) (d : List (S55)) (a : Int) (l m : Bool) (a1 r : Int) (w : World) (X : Kd.C k55 w o d.length d) (W : d.length ≤ p) (h : move_to.f k j c d a l m a1 = some r) :
  Calls Tryz.prog 109 #[.agg #[.int .i64 j, .int .i64 c, .slice o d.length p, .int .i64 a, .bool l, .bool m], .int .i64 a1] w fun e w' => e = .returned (.int .i64 r) ∧ Below w.heap.size w w' := by
 have co := Tryz.underlying24
 have v := Z X
 have u := Z W
 clear X W
 have HB := Z (Below.refl w.heap.size w)
 unfold move_to.f at h
 have H := h
 clear h
 by_cases c3 : a1 = 4
 ·rw [if_pos c3] at H
  obtain ⟨aw, ax⟩ := eT_ c3
  clear c3
  replace H := bn_ H
  obtain ⟨R, A4, H⟩ := H
  obtain rfl := Option.some.inj H
  go_enter Tryz.func109, Tryz.ntmps109
  go_wp2_with (first | ((with_reducible refine gD_ 2 rfl ?_); refine bx_ 2 24 #[.int .i64 j, .int .i64 c, .slice o d.length p, .int .i64 a, .bool l, .bool m] ?_; intro n hg w5 hbox hb; have b := Z hbox; have y := ln' w hg; replace HB := bs_ hb; clear hb hbox hg; have b1 := cells6 b.out) | ((with_reducible refine gF_ 125 rfl ?_); refine gd_ (some 28) Tryz.func125 (grid_On.calls j c _ _ d a l m a (wrap64 (-c)) R _ (cB_ v HB) u.out A4.out) ?_; rintro e w7 ⟨rfl, hb⟩; refine ⟨_, rfl, ?_⟩; replace b := kb' b hb; replace HB := bs_ hb; (try clear hb)))
  go_ret
  exact ⟨er_, bl_⟩
 rw [if_neg c3] at H
 obtain ⟨aw, ax⟩ := eF_ c3
 by_cases c8 : a1 = 2
 ·rw [if_pos c8] at H
  obtain ⟨ay, az⟩ := eT_ c8
  clear c8
  replace H := bn_ H
  obtain ⟨S, A9, H⟩ := H
  obtain rfl := Option.some.inj H
  go_enter Tryz.func109, Tryz.ntmps109
  go_wp2_with (first | ((with_reducible refine gD_ 2 rfl ?_); refine bx_ 2 24 #[.int .i64 j, .int .i64 c, .slice o d.length p, .int .i64 a, .bool l, .bool m] ?_; intro n hg cp hbox hb; have b := Z hbox; have y := ln' w hg; replace HB := bs_ hb; clear hb hbox hg; have aA := cells6 b.out) | ((with_reducible refine gF_ 125 rfl ?_); refine gd_ (some 28) Tryz.func125 (grid_On.calls j c _ _ d a l m a (-1) S _ (cB_ v HB) u.out A9.out) ?_; rintro e cq ⟨rfl, hb⟩; refine ⟨_, rfl, ?_⟩; replace b := kb' b hb; replace HB := bs_ hb; (try clear hb)))
  go_ret
  exact ⟨er_, bl_⟩
 rw [if_neg c8] at H
 obtain ⟨ay, az⟩ := eF_ c8
 by_cases G : a1 = 5
 ·rw [if_pos G] at H
  obtain ⟨af, ag⟩ := eT_ G
  clear G
  replace H := bn_ H
  obtain ⟨T, bY, H⟩ := H
  obtain rfl := Option.some.inj H
  go_enter Tryz.func109, Tryz.ntmps109
  go_wp2_with (first | ((with_reducible refine gD_ 2 rfl ?_); refine bx_ 2 24 #[.int .i64 j, .int .i64 c, .slice o d.length p, .int .i64 a, .bool l, .bool m] ?_; intro n hg cr hbox hb; have b := Z hbox; have y := ln' w hg; replace HB := bs_ hb; clear hb hbox hg; have aG := cells6 b.out) | ((with_reducible refine gF_ 125 rfl ?_); refine gd_ (some 35) Tryz.func125 (grid_On.calls j c _ _ d a l m a c T _ (cB_ v HB) u.out bY.out) ?_; rintro e ct ⟨rfl, hb⟩; refine ⟨_, rfl, ?_⟩; replace b := kb' b hb; replace HB := bs_ hb; (try clear hb)))
  go_ret
  exact ⟨er_, bl_⟩
 rw [if_neg G] at H
 obtain ⟨af, ag⟩ := eF_ G
 by_cases I : a1 = 3
 ·rw [if_pos I] at H
  obtain ⟨ah, ai⟩ := eT_ I
  clear I
  replace H := bn_ H
  obtain ⟨U, bZ, H⟩ := H
  obtain rfl := Option.some.inj H
  go_enter Tryz.func109, Tryz.ntmps109
  go_wp2_with (first | ((with_reducible refine gD_ 2 rfl ?_); refine bx_ 2 24 #[.int .i64 j, .int .i64 c, .slice o d.length p, .int .i64 a, .bool l, .bool m] ?_; intro n hg cu hbox hb; have b := Z hbox; have y := ln' w hg; replace HB := bs_ hb; clear hb hbox hg; have aM := cells6 b.out) | ((with_reducible refine gF_ 125 rfl ?_); refine gd_ (some 35) Tryz.func125 (grid_On.calls j c _ _ d a l m a 1 U _ (cB_ v HB) u.out bZ.out) ?_; rintro e cv ⟨rfl, hb⟩; refine ⟨_, rfl, ?_⟩; replace b := kb' b hb; replace HB := bs_ hb; (try clear hb)))
  go_ret
  exact ⟨er_, bl_⟩
 rw [if_neg I] at H
 obtain ⟨ah, ai⟩ := eF_ I
 by_cases J : a1 = 7
 ·rw [if_pos J] at H
  obtain ⟨aj, ak⟩ := eT_ J
  clear J
  replace H := bn_ H
  obtain ⟨F, ap, H⟩ := H
  obtain ⟨O, z⟩ : ∃ j_ : Int, (mx 0 F) = j_ := ⟨_, rfl⟩
  replace H : (some O) = some r := by first | (rw [z] at H; exact H) | (simp only [z] at H ⊢; exact H)
  (try rw [z] at ap)
  (try (have ce : 0 ≤ O := by (rw [← z]; unfold mx; (repeat' split) <;> omega)))
  (try (have cf : 0 ≤ O := by omega))
  have cd : (if 0 < F then F else 0) = O := z
  obtain rfl := Option.some.inj H
  go_enter Tryz.func109, Tryz.ntmps109
  go_wp2_with (first | ((with_reducible refine gD_ 2 rfl ?_); refine bx_ 2 24 #[.int .i64 j, .int .i64 c, .slice o d.length p, .int .i64 a, .bool l, .bool m] ?_; intro n hg cw hbox hb; have b := Z hbox; have y := ln' w hg; replace HB := bs_ hb; clear hb hbox hg; have aS := cells6 b.out) | ((with_reducible refine gF_ 130 rfl ?_); refine gd_ (some 39) Tryz.func130 (field_Prev.calls j c _ _ d a l m a F _ (cB_ v HB) u.out ap.out) ?_; rintro e cx ⟨rfl, hb⟩; refine ⟨_, rfl, ?_⟩; replace b := kb' b hb; replace HB := bs_ hb; (try clear hb)))
  go_ret
  exact ⟨by first | rfl | (simp [errW_none, errW_some] <;> rfl) | (simp only [← z]; first | rfl | (simp [errW_none, errW_some] <;> rfl)) | (simp [*, errW_none, errW_some] <;> rfl), bl_⟩
 rw [if_neg J] at H
 obtain ⟨aj, ak⟩ := eF_ J
 by_cases K : a1 = 6
 ·rw [if_pos K] at H
  obtain ⟨al, am⟩ := eT_ K
  clear K
  replace H := bn_ H
  obtain ⟨D, aq, H⟩ := H
  obtain ⟨P, A⟩ : ∃ j_ : Int, (mx 0 D) = j_ := ⟨_, rfl⟩
  replace H : (some P) = some r := by first | (rw [A] at H; exact H) | (simp only [A] at H ⊢; exact H)
  (try rw [A] at aq)
  (try (have ch : 0 ≤ P := by (rw [← A]; unfold mx; (repeat' split) <;> omega)))
  (try (have ci : 0 ≤ P := by omega))
  have cg : (if 0 < D then D else 0) = P := A
  obtain rfl := Option.some.inj H
  go_enter Tryz.func109, Tryz.ntmps109
  go_wp2_with (first | ((with_reducible refine gD_ 2 rfl ?_); refine bx_ 2 24 #[.int .i64 j, .int .i64 c, .slice o d.length p, .int .i64 a, .bool l, .bool m] ?_; intro n hg cy hbox hb; have b := Z hbox; have y := ln' w hg; replace HB := bs_ hb; clear hb hbox hg; have aY := cells6 b.out) | ((with_reducible refine gF_ 54 rfl ?_); refine gd_ (some 44) Tryz.func54 (field_Next.calls j c _ _ d a l m a D _ (cB_ v HB) u.out aq.out) ?_; rintro e cz ⟨rfl, hb⟩; refine ⟨_, rfl, ?_⟩; replace b := kb' b hb; replace HB := bs_ hb; (try clear hb)))
  go_ret
  exact ⟨by first | rfl | (simp [errW_none, errW_some] <;> rfl) | (simp only [← A]; first | rfl | (simp [errW_none, errW_some] <;> rfl)) | (simp [*, errW_none, errW_some] <;> rfl), bl_⟩
 rw [if_neg K] at H
 obtain ⟨al, am⟩ := eF_ K
 by_cases L : a1 = 8
 ·rw [if_pos L] at H
  obtain ⟨an, ao⟩ := eT_ L
  clear L
  replace H := bn_ H
  obtain ⟨E, ar, H⟩ := H
  obtain ⟨Q, B⟩ : ∃ j_ : Int, (mx 0 E) = j_ := ⟨_, rfl⟩
  replace H : (some Q) = some r := by first | (rw [B] at H; exact H) | (simp only [B] at H ⊢; exact H)
  (try rw [B] at ar)
  (try (have ck : 0 ≤ Q := by (rw [← B]; unfold mx; (repeat' split) <;> omega)))
  (try (have cl : 0 ≤ Q := by omega))
  have cj : (if 0 < E then E else 0) = Q := B
  obtain rfl := Option.some.inj H
  go_enter Tryz.func109, Tryz.ntmps109
  go_wp2_with (first | ((with_reducible refine gD_ 2 rfl ?_); refine bx_ 2 24 #[.int .i64 j, .int .i64 c, .slice o d.length p, .int .i64 a, .bool l, .bool m] ?_; intro n hg cA hbox hb; have b := Z hbox; have y := ln' w hg; replace HB := bs_ hb; clear hb hbox hg; have a5 := cells6 b.out) | ((with_reducible refine gF_ 54 rfl ?_); refine gd_ (some 51) Tryz.func54 (field_Next.calls j c _ _ d a l m (wrap64 ((d.length : Int) - 1)) E _ (cB_ v HB) u.out ar.out) ?_; rintro e cB ⟨rfl, hb⟩; refine ⟨_, rfl, ?_⟩; replace b := kb' b hb; replace HB := bs_ hb; (try clear hb)))
  go_ret
  exact ⟨by first | rfl | (simp [errW_none, errW_some] <;> rfl) | (simp only [← B]; first | rfl | (simp [errW_none, errW_some] <;> rfl)) | (simp [*, errW_none, errW_some] <;> rfl), bl_⟩
 rw [if_neg L] at H
 obtain ⟨an, ao⟩ := eF_ L
 replace H := bn_ H
 obtain ⟨V, b0, H⟩ := H
 obtain rfl := Option.some.inj H
 go_enter Tryz.func109, Tryz.ntmps109
 go_wp2_with (first | ((with_reducible refine gD_ 2 rfl ?_); refine bx_ 2 24 #[.int .i64 j, .int .i64 c, .slice o d.length p, .int .i64 a, .bool l, .bool m] ?_; intro n hg cC hbox hb; have b := Z hbox; have y := ln' w hg; replace HB := bs_ hb; clear hb hbox hg; have bb := cells6 b.out) | ((with_reducible refine gF_ 131 rfl ?_); refine gd_ (some 54) Tryz.func131 (move_line.calls k j c _ _ d a l m V _ (cB_ v HB) u.out b0.out) ?_; rintro e cD ⟨rfl, hb⟩; refine ⟨_, rfl, ?_⟩; replace b := kb' b hb; replace HB := bs_ hb; (try clear hb)))
 go_ret
 exact ⟨er_, bl_⟩

/-! ### move_Do: function 70 -/
def move_Do.f (k : Nat) (c d : Int) (h : List (S55)) (e : Int) (b g : Bool) (a1 : Int) : Option (Int × Int × (List (S55)) × Int × Bool × Bool × Option Er × (List (S206))) := (move_Moves.f a1).bind fun i => (if i = true then (if b = true then (some (c, d, h, e, b, g, some (Er.num 7), ([] : List (S206)))) else ((grid_Copy.f c d h e b g).bind fun a => ((move_to.f k a.1 a.2.1 a.2.2.1 a.2.2.2.1 a.2.2.2.2.1 a.2.2.2.2.2 a1).bind fun j => (some (a.1, a.2.1, a.2.2.1, j, a.2.2.2.2.1, a.2.2.2.2.2, none, ([] : List (S206))))))) else (some (c, d, h, e, b, g, some (Er.num 1), ([] : List (S206)))))
theorem move_Do.mono : ∀ a0 a1 a b a4 c d k, LeO (move_Do.f k a0 a1 a b a4 c d) (move_Do.f (k + 1) a0 a1 a b a4 c d) := by
 intro a0 a1 a b a4 c d k
 unfold move_Do.f
 repeat' first
   | (with_reducible exact move_to.mono _ _ _ _ _ _ _ _)
   | (with_reducible exact LeO.refl _)
   | (with_reducible exact LeO.none _)
   | (with_reducible refine LeO.ite ?_ ?_)
   | (with_reducible refine LeO.bind ?_ (fun _ => ?_))
   | exact move_to.mono _ _ _ _ _ _ _ _
   | exact LeO.none _
   | refine LeO.ite ?_ ?_
   | refine LeO.bind ?_ (fun _ => ?_)
theorem move_Do.calls (k : Nat) (q r : Int) (S : Nat → Prop) (B : Option Addr) (D : Nat) (l : List (S55)) (s : Int) (A u : Bool) (a1 r1 r2 : Int) (r3 : List (S55)) (r4 : Int) (r5 r6 : Bool) (r7 : Option Er) (r8 : List (S206)) (w : World) (aq : Kd.V k55 55 w w.heap.size (fun k_ => S k_) (.slice B l.length D) l) (h : move_Do.f k q r l s A u a1 = some (r1, r2, r3, r4, r5, r6, r7, r8)) :
  Calls Tryz.prog 70 #[.agg #[.int .i64 q, .int .i64 r, .slice B l.length D, .int .i64 s, .bool A, .bool u], .int .i64 a1] w fun e w' => ∃ au av : Value, e = .returned (.tuple #[.agg #[.int .i64 r1, .int .i64 r2, au, .int .i64 r4, .bool r5, .bool r6], errW av r7]) ∧ Kd.V k55 55 w' w.heap.size (fun k_ => (S k_ ∨ w.heap.size ≤ k_)) au r3 ∧ Kd.V k206 206 w' w.heap.size (fun k_ => (S k_ ∨ w.heap.size ≤ k_)) av r8 ∧ Below w.heap.size w w' := by
 have ch := Tryz.underlying24
 have ci := Tryz.underlying34
 have cj := Tryz.underlying69
 have i := Z (show Kd.V k55 55 w w.heap.size (fun k_ => (S k_ ∨ w.heap.size ≤ k_)) (.slice B l.length D) l from Kd.V_mono aq (fun k_ hk => .inl hk))
 have HB := Z (Below.refl w.heap.size w)
 unfold move_Do.f at h
 have H := h
 clear h
 replace H := bn_ H
 obtain ⟨ai, A3, H⟩ := H
 cases ai
 ·rw [iF_] at H
  obtain ⟨rfl, rfl, rfl, rfl, rfl, rfl, rfl, rfl⟩ := ij8_ H
  go_enter Tryz.func70, Tryz.ntmps70
  go_wp2_with (first | ((with_reducible refine gD_ 2 rfl ?_); refine bx_ 2 24 #[.int .i64 q, .int .i64 r, .slice B l.length D, .int .i64 s, .bool A, .bool u] ?_; intro j hg co hbox hb; replace i := ve' i hg hb; have b := Z hbox; have al := ln' w hg; replace HB := bs_ hb; clear hb hbox hg) | ((with_reducible refine gD_ 4 rfl ?_); refine bx_ 4 24 zS_ ?_; intro d hg aa hbox hb; replace i := ve' i hg hb; have m := Z hbox; have am := ln' w hg; replace HB := bs_ hb; have L := nl' b hg; replace b := kb' b hb; clear hb hbox hg) | ((with_reducible refine gF_ 69 rfl ?_); refine gd_ (some 8) Tryz.func69 (move_Moves.calls a1 false _ A3.out) ?_; rintro e w' ⟨rfl, ⟨nd, rfl⟩⟩; refine ⟨_, rfl, ?_⟩; (try (rw [drewN_self aa]; generalize hq_ : World.drewN aa _ = aa; replace i := Z (qV hq_ i.out); replace b := Z (qM hq_ b.out); replace m := Z (qM hq_ m.out); replace HB := Z (qB hq_ HB.out); clear hq_)); have cc := ns_ L; have a3 := cells6 b.out; have a9 := cells6 m.out))
  refine rc2_ (put6 m.out) Tryz.underlying24 ?_
  exact ⟨_, _, er_, by (with_reducible repeat apply pV); exact Kd.V_mono (f6V d (Kd.V_mono i.out (fun k_ hk => (⟨hk, hk.2⟩ : _ ∧ k_ ≠ d))) im_) im_, Kd.R_V (Kd.R_nil _ _ _ 0 _), bl_⟩
 rw [if_pos rfl] at H
 by_cases c5 : A = true
 ·subst c5
  rw [if_pos rfl] at H
  obtain ⟨rfl, rfl, rfl, rfl, rfl, rfl, rfl, rfl⟩ := ij8_ H
  go_enter Tryz.func70, Tryz.ntmps70
  go_wp2_with (first | ((with_reducible refine gD_ 2 rfl ?_); refine bx_ 2 24 #[.int .i64 q, .int .i64 r, .slice B l.length D, .int .i64 s, .bool true, .bool u] ?_; intro j hg w6 hbox hb; replace i := ve' i hg hb; have b := Z hbox; have al := ln' w hg; replace HB := bs_ hb; clear hb hbox hg) | ((with_reducible refine gD_ 4 rfl ?_); refine bx_ 4 24 zS_ ?_; intro d hg w7 hbox hb; replace i := ve' i hg hb; have m := Z hbox; have am := ln' w hg; replace HB := bs_ hb; have L := nl' b hg; replace b := kb' b hb; clear hb hbox hg) | ((with_reducible refine gF_ 69 rfl ?_); refine gd_ (some 8) Tryz.func69 (move_Moves.calls a1 true _ A3.out) ?_; rintro e w' ⟨rfl, ⟨nd, rfl⟩⟩; refine ⟨_, rfl, ?_⟩; (try (rw [drewN_self w7]; generalize hq_ : World.drewN w7 _ = w7; replace i := Z (qV hq_ i.out); replace b := Z (qM hq_ b.out); replace m := Z (qM hq_ m.out); replace HB := Z (qB hq_ HB.out); clear hq_)); have cf := ns_ L; have bZ := cells6 b.out; have ay := cells6 m.out))
  refine rc2_ (put6 m.out) Tryz.underlying24 ?_
  exact ⟨_, _, er_, by (with_reducible repeat apply pV); exact Kd.V_mono (f6V d (Kd.V_mono i.out (fun k_ hk => (⟨hk, hk.2⟩ : _ ∧ k_ ≠ d))) im_) im_, Kd.R_V (Kd.R_nil _ _ _ 0 _), bl_⟩
 replace c5 := Bool.eq_false_iff.mpr c5
 subst c5
 rw [iF_] at H
 replace H := bn_ H
 obtain ⟨⟨F, I, J, T, K, O⟩, bW, H⟩ := H
 try dsimp only at H
 replace H := bn_ H
 obtain ⟨G, bX, H⟩ := H
 obtain ⟨rfl, rfl, rfl, rfl, rfl, rfl, rfl, rfl⟩ := ij8_ H
 go_enter Tryz.func70, Tryz.ntmps70
 go_wp2_with (first | ((with_reducible refine gD_ 2 rfl ?_); refine bx_ 2 24 #[.int .i64 q, .int .i64 r, .slice B l.length D, .int .i64 s, .bool false, .bool u] ?_; intro j hg cl hbox hb; replace i := ve' i hg hb; have b := Z hbox; have al := ln' w hg; replace HB := bs_ hb; clear hb hbox hg) | ((with_reducible refine gD_ 4 rfl ?_); refine bx_ 4 24 zS_ ?_; intro d hg Y hbox hb; replace i := ve' i hg hb; have m := Z hbox; have am := ln' w hg; replace HB := bs_ hb; have L := nl' b hg; replace b := kb' b hb; clear hb hbox hg) | ((with_reducible refine gF_ 69 rfl ?_); refine gd_ (some 8) Tryz.func69 (move_Moves.calls a1 true _ A3.out) ?_; rintro e w' ⟨rfl, ⟨nd, rfl⟩⟩; refine ⟨_, rfl, ?_⟩; (try (rw [drewN_self Y]; generalize hq_ : World.drewN Y _ = Y; replace i := Z (qV hq_ i.out); replace b := Z (qM hq_ b.out); replace m := Z (qM hq_ m.out); replace HB := Z (qB hq_ HB.out); clear hq_)); have cb := ns_ L; have aE := cells6 b.out) | ((with_reducible refine gF_ 21 rfl ?_); refine gd_ (some 18) Tryz.func21 (grid_Copy.calls q r _ _ l s false u F I J T K O _ (vC_ i) (vL_ i) bW.out) ?_; rintro e cm ⟨ck, rfl, ap, hb⟩; refine ⟨_, rfl, ?_⟩; replace i := Z (Kd.V_elder' (vV i.out) (Kd.R_base ap) hb); have R := Z (Kd.R_lower (Kd.R_newM (M := fun k_ => (w.heap.size ≤ k_)) ap (below_size bl_) (fun k_ h_ => h_)) (below_size bl_)); replace b := kb' b hb; replace m := kb' m hb; replace HB := bs_ hb; (try clear hb); (try clear hk); (try clear ap); have aK := cells6 b.out; obtain ⟨Q, P, ax⟩ := Kd.R_slice R.out; subst ax) | ((with_reducible refine gF_ 109 rfl ?_); refine gd_ (some 21) Tryz.func109 (move_to.calls k F I _ _ J T K O a1 G _ ?side1 (rL_ R) bX.out) ?_; (case side1 => refine (Kd.R_reads' (e := 55) (base := w.heap.size) (ok := fun k_ => (((w.heap.size ≤ k_)) ∧ True)) (n := J.length) (c := P) ?_).2.2; exact (by (with_reducible repeat apply pR); exact (Kd.R_mono (f6R j (Kd.R_types R.out b.out (by decide)) (fun _ hk => hk.2)) (fun _ h_ => h_.1)))); rintro e cn ⟨rfl, hb⟩; refine ⟨_, rfl, ?_⟩; replace i := Z (Kd.V_below (by (with_reducible repeat apply pV); exact (Kd.V_mono (f6V j (Kd.V_mono i.out (fun k_ hk => (⟨hk, hk.1.1.2⟩ : _ ∧ k_ ≠ j))) (fun _ hk => hk.2)) (fun _ h_ => h_.1))) hb); replace R := Z (Kd.R_below (by (with_reducible repeat apply pR); exact (Kd.R_mono (f6R j (Kd.R_types R.out b.out (by decide)) (fun _ hk => hk.2)) (fun _ h_ => h_.1))) hb); replace b := Z (blk_below (g := j) (o := .cells #[.int .i64 F, .int .i64 I, .slice Q J.length P, .int .i64 T, .bool K, .bool O] 24 (0, 0)) (put6 b.out) hb); replace m := Z (blk_below (g := d) (o := .cells zS_ 24 (0, 0)) (blk_off m.out L.out.symm off2_) hb); replace HB := bs_ hb; (try clear hb); (try clear hk); have aQ := cells6 b.out; have aW := cells6 m.out))
 refine bodyPost_ret (results_ct rfl _ _ d 24 #[.int .i64 F, .int .i64 I, .slice Q J.length P, .int .i64 G, .bool K, .bool O] (0, 0) _ rfl (put6 (by (with_reducible repeat apply pK); refine blk_far ?_ L.out.symm _; (with_reducible repeat apply pK); exact m.out)) Tryz.underlying24 rfl (by kernel_rfl)) rfl ?_
 exact ⟨_, _, er_, Kd.V_mono (Kd.R_V (by (with_reducible repeat apply pR); exact Kd.R_mono (f6R d (Kd.R_far (p := ⟨j, 3, none⟩) (Kd.R_types (Kd.R_types R.out b.out (by decide)) m.out (by decide)) im_ (.int .i64 G)) im_) (fun _ hk => hk.1.1.1))) (fun k_ hk => by first | exact ⟨(.inr (hk.1)), hk.2⟩ | exact (.inr (hk))), Kd.R_V (Kd.R_nil _ _ _ 0 _), bl_⟩
/-! ### wipe_Wipes: function 71 -/
def wipe_Wipes.f (a0 : Int) : Option (Bool) := if a0 ≥ 12 then (some (decide (a0 ≤ 14))) else (some false)
theorem wipe_Wipes.calls (a0 : Int) (r : Bool) (w : World) (h : wipe_Wipes.f a0 = some r) :
  Calls Tryz.prog 71 #[.int .i64 a0] w fun e w' => e = .returned (.bool r) ∧ Drawn0 w w' := by
 unfold wipe_Wipes.f at h
 have H := h
 clear h
 by_cases c2 : a0 ≥ 12
 ·rw [if_pos c2] at H
  have a : decide (12 ≤ a0) = true := decide_eq_true c2
  clear c2
  obtain rfl := Option.some.inj H
  go_enter Tryz.func71, Tryz.ntmps71
  go_wp2
  go_ret
  exact ⟨dn_, dr_⟩
 rw [if_neg c2] at H
 have a : decide (12 ≤ a0) = false := decide_eq_false c2
 clear c2
 obtain rfl := Option.some.inj H
 go_enter Tryz.func71, Tryz.ntmps71
 go_wp2
 go_ret
 exact ⟨dn_, dr_⟩

/-! ### grid_Size: function 20 -/
def grid_Size.f (b c : Int) (a : List (S55)) (d : Int) (e g : Bool) : Option (Int) := some (a.length : Int)
theorem grid_Size.calls (c d : Int) (b : Option Addr) (k : Nat) (a : List (S55)) (g : Int) (i j : Bool) (r : Int) (w : World) (n : Kd.C k55 w b a.length a) (m : a.length ≤ k) (h : grid_Size.f c d a g i j = some r) :
  Calls Tryz.prog 20 #[.agg #[.int .i64 c, .int .i64 d, .slice b a.length k, .int .i64 g, .bool i, .bool j]] w fun e w' => e = .returned (.int .i64 r) ∧ Below w.heap.size w w' := by
 have P := Tryz.underlying24
 have O := Z n
 have M := Z m
 clear n m
 have HB := Z (Below.refl w.heap.size w)
 unfold grid_Size.f at h
 have H := h
 clear h
 obtain rfl := Option.some.inj H
 go_enter Tryz.func20, Tryz.ntmps20
 go_wp2_with (first | ((with_reducible refine gD_ 1 rfl ?_); refine bx_ 1 24 #[.int .i64 c, .int .i64 d, .slice b a.length k, .int .i64 g, .bool i, .bool j] ?_; intro l hg w2 hbox hb; have o := Z hbox; have L := ln' w hg; replace HB := bs_ hb; clear hb hbox hg; have v := cells6 o.out))
 go_ret
 exact ⟨er_, bl_⟩

end Go.Proofs.YtjpedimndkibnaaGreatDoor.P
