/- pp.py and press2.py (wip/tools) wrote this text. -/
import Derived.Test.YtphboakgkmjpbaaGreatDoorJHostDoes1
import Derived.Test.YtphboakgkmjpbaaGreatDoorPx16
import Derived.Test.YtphboakgkmjpbaaGreatDoorPx17
namespace Go.Proofs.YtphboakgkmjpbaaGreatDoor.P
open Go.RowKit Go.Proofs.YtphboakgkmjpbaaGreatDoorW.PrintWords Go.Proofs.YtphboakgkmjpbaaGreatDoorW.PrintLast Go.Proofs.YtphboakgkmjpbaaGreatDoorW.PrintMore
attribute [local go_sem] max2_int min2_int max_two min_two max_three min_three max_four min_four
attribute [local go_sem] Instr.field asAgg
set_option linter.unusedVariables false
set_option linter.unusedSimpArgs false
set_option maxHeartbeats 8000000
set_option maxRecDepth 100000

attribute [local go_sem high] eqA45
/-! ### shutterref07_Wrong: function 24 -/
mutual
def shutterref07_Wrong.j0 : Nat → Int → Int → Bool → Int → List Int → Bool → Bool → Int → Bool → Int → Int → Option (Int)
 | 0, _, _, _, _, _, _, _, _, _, _, _ => none
 | k + 1, m, l, n, b, a, c, d, e, g, h, i => if n = true then (some 5) else (if ((l == 1) != (decide ((a.length : Int) > 0))) = true then (shutterref07_Wrong.j1 k m l true b a c d e g h i) else ((shutterref05_Chars.f k a).bind fun j => (shutterref07_Wrong.j1 k m l (!j) b a c d e g h i)))
def shutterref07_Wrong.j1 : Nat → Int → Int → Bool → Int → List Int → Bool → Bool → Int → Bool → Int → Int → Option (Int)
 | 0, _, _, _, _, _, _, _, _, _, _, _ => none
 | k + 1, j, i, l, e, f, b, c, a, d, g, h => if l = true then (some 1) else (if i = 2 then (if a < 0 then (shutterref07_Wrong.j2 k j i true e f b c a d g h) else (if a > 3 then (shutterref07_Wrong.j2 k j i true e f b c a d g h) else (shutterref07_Wrong.j2 k j i false e f b c a d g h))) else (shutterref07_Wrong.j2 k j i (b || (c || (!(a == 0) || (d)))) e f b c a d g h))
def shutterref07_Wrong.j2 : Nat → Int → Int → Bool → Int → List Int → Bool → Bool → Int → Bool → Int → Int → Option (Int)
 | 0, _, _, _, _, _, _, _, _, _, _, _ => none
 | k + 1, m, j, n, b, c, d, e, g, h, i, a => if n = true then (some 1) else (if j = 6 then ((shutterref05_Char.f a).bind fun l => (if l = true then (shutterref07_Wrong.j3 k m j false b c d e g h i a) else (shutterref07_Wrong.j3 k m j true b c d e g h i a))) else (shutterref07_Wrong.j3 k m j (a != 0) b c d e g h i a))
def shutterref07_Wrong.j3 : Nat → Int → Int → Bool → Int → List Int → Bool → Bool → Int → Bool → Int → Int → Option (Int)
 | 0, _, _, _, _, _, _, _, _, _, _, _ => none
 | k + 1, i, j, l, a, b, c, d, e, f, g, h => if l = true then (some 1) else (if j = 3 then (shutterref07_Wrong.j4 k i false a b c d e f g h) else (if j = 6 then (shutterref07_Wrong.j4 k i false a b c d e f g h) else (shutterref07_Wrong.j4 k i (j != 7) a b c d e f g h)))
def shutterref07_Wrong.j4 : Nat → Int → Bool → Int → List Int → Bool → Bool → Int → Bool → Int → Int → Option (Int)
 | 0, _, _, _, _, _, _, _, _, _, _ => none
 | k + 1, j, i, b, c, d, e, f, g, a, h => if i = true then (if a = 0 then (some 0) else (some 1)) else (if a < 0 then (some 4) else (if a ≥ j then (some 4) else (some 0)))
end
def shutterref07_Wrong.f (k : Nat) (a : Int) (i : List Int) (b c : Bool) (d : Int) (e : Bool) (g h a1 : Int) : Option (Int) := if a < 1 then (shutterref07_Wrong.j0 k a1 a true a i b c d e g h) else (shutterref07_Wrong.j0 k a1 a (decide (a > 7)) a i b c d e g h)
theorem shutterref07_Wrong.mono_l : ∀ k, (∀ b c d e f g i j l m a, LeO (shutterref07_Wrong.j0 k b c d e f g i j l m a) (shutterref07_Wrong.j0 (k + 1) b c d e f g i j l m a)) ∧ (∀ b c d e f g i j l m a, LeO (shutterref07_Wrong.j1 k b c d e f g i j l m a) (shutterref07_Wrong.j1 (k + 1) b c d e f g i j l m a)) ∧ (∀ b c d e f g i j l m a, LeO (shutterref07_Wrong.j2 k b c d e f g i j l m a) (shutterref07_Wrong.j2 (k + 1) b c d e f g i j l m a)) ∧ (∀ b c d e f g i j l m a, LeO (shutterref07_Wrong.j3 k b c d e f g i j l m a) (shutterref07_Wrong.j3 (k + 1) b c d e f g i j l m a)) ∧ (∀ b c d e f g i j l m, LeO (shutterref07_Wrong.j4 k b c d e f g i j l m) (shutterref07_Wrong.j4 (k + 1) b c d e f g i j l m))
 | 0 => ⟨fun _ _ _ _ _ _ _ _ _ _ _ r h => by simp [shutterref07_Wrong.j0] at h, fun _ _ _ _ _ _ _ _ _ _ _ r h => by simp [shutterref07_Wrong.j1] at h, fun _ _ _ _ _ _ _ _ _ _ _ r h => by simp [shutterref07_Wrong.j2] at h, fun _ _ _ _ _ _ _ _ _ _ _ r h => by simp [shutterref07_Wrong.j3] at h, fun _ _ _ _ _ _ _ _ _ _ r h => by simp [shutterref07_Wrong.j4] at h⟩
 | k + 1 => by
  obtain ⟨n, o, p, q, s⟩ := shutterref07_Wrong.mono_l k
  refine ⟨?_, ?_, ?_, ?_, ?_⟩
  ·intro b c d e f g i j l m a
   unfold shutterref07_Wrong.j0
   repeat' first
   | (with_reducible exact n _ _ _ _ _ _ _ _ _ _ _)
   | (with_reducible exact o _ _ _ _ _ _ _ _ _ _ _)
   | (with_reducible exact p _ _ _ _ _ _ _ _ _ _ _)
   | (with_reducible exact q _ _ _ _ _ _ _ _ _ _ _)
   | (with_reducible exact s _ _ _ _ _ _ _ _ _ _)
   | (with_reducible exact shutterref05_Chars.mono _ _)
   | (with_reducible exact LeO.refl _)
   | (with_reducible exact LeO.none _)
   | (with_reducible refine LeO.ite ?_ ?_)
   | (with_reducible refine LeO.bind ?_ (fun _ => ?_))
   | exact n _ _ _ _ _ _ _ _ _ _ _
   | exact o _ _ _ _ _ _ _ _ _ _ _
   | exact p _ _ _ _ _ _ _ _ _ _ _
   | exact q _ _ _ _ _ _ _ _ _ _ _
   | exact s _ _ _ _ _ _ _ _ _ _
   | exact shutterref05_Chars.mono _ _
   | exact LeO.none _
   | refine LeO.ite ?_ ?_
   | refine LeO.bind ?_ (fun _ => ?_)
  ·intro b c d e f g i j l m a
   unfold shutterref07_Wrong.j1
   repeat' first
   | (with_reducible exact n _ _ _ _ _ _ _ _ _ _ _)
   | (with_reducible exact o _ _ _ _ _ _ _ _ _ _ _)
   | (with_reducible exact p _ _ _ _ _ _ _ _ _ _ _)
   | (with_reducible exact q _ _ _ _ _ _ _ _ _ _ _)
   | (with_reducible exact s _ _ _ _ _ _ _ _ _ _)
   | (with_reducible exact shutterref05_Chars.mono _ _)
   | (with_reducible exact LeO.refl _)
   | (with_reducible exact LeO.none _)
   | (with_reducible refine LeO.ite ?_ ?_)
   | (with_reducible refine LeO.bind ?_ (fun _ => ?_))
   | exact n _ _ _ _ _ _ _ _ _ _ _
   | exact o _ _ _ _ _ _ _ _ _ _ _
   | exact p _ _ _ _ _ _ _ _ _ _ _
   | exact q _ _ _ _ _ _ _ _ _ _ _
   | exact s _ _ _ _ _ _ _ _ _ _
   | exact shutterref05_Chars.mono _ _
   | exact LeO.none _
   | refine LeO.ite ?_ ?_
   | refine LeO.bind ?_ (fun _ => ?_)
  ·intro b c d e f g i j l m a
   unfold shutterref07_Wrong.j2
   repeat' first
   | (with_reducible exact n _ _ _ _ _ _ _ _ _ _ _)
   | (with_reducible exact o _ _ _ _ _ _ _ _ _ _ _)
   | (with_reducible exact p _ _ _ _ _ _ _ _ _ _ _)
   | (with_reducible exact q _ _ _ _ _ _ _ _ _ _ _)
   | (with_reducible exact s _ _ _ _ _ _ _ _ _ _)
   | (with_reducible exact shutterref05_Chars.mono _ _)
   | (with_reducible exact LeO.refl _)
   | (with_reducible exact LeO.none _)
   | (with_reducible refine LeO.ite ?_ ?_)
   | (with_reducible refine LeO.bind ?_ (fun _ => ?_))
   | exact n _ _ _ _ _ _ _ _ _ _ _
   | exact o _ _ _ _ _ _ _ _ _ _ _
   | exact p _ _ _ _ _ _ _ _ _ _ _
   | exact q _ _ _ _ _ _ _ _ _ _ _
   | exact s _ _ _ _ _ _ _ _ _ _
   | exact shutterref05_Chars.mono _ _
   | exact LeO.none _
   | refine LeO.ite ?_ ?_
   | refine LeO.bind ?_ (fun _ => ?_)
  ·intro b c d e f g i j l m a
   unfold shutterref07_Wrong.j3
   repeat' first
   | (with_reducible exact n _ _ _ _ _ _ _ _ _ _ _)
   | (with_reducible exact o _ _ _ _ _ _ _ _ _ _ _)
   | (with_reducible exact p _ _ _ _ _ _ _ _ _ _ _)
   | (with_reducible exact q _ _ _ _ _ _ _ _ _ _ _)
   | (with_reducible exact s _ _ _ _ _ _ _ _ _ _)
   | (with_reducible exact shutterref05_Chars.mono _ _)
   | (with_reducible exact LeO.refl _)
   | (with_reducible exact LeO.none _)
   | (with_reducible refine LeO.ite ?_ ?_)
   | (with_reducible refine LeO.bind ?_ (fun _ => ?_))
   | exact n _ _ _ _ _ _ _ _ _ _ _
   | exact o _ _ _ _ _ _ _ _ _ _ _
   | exact p _ _ _ _ _ _ _ _ _ _ _
   | exact q _ _ _ _ _ _ _ _ _ _ _
   | exact s _ _ _ _ _ _ _ _ _ _
   | exact shutterref05_Chars.mono _ _
   | exact LeO.none _
   | refine LeO.ite ?_ ?_
   | refine LeO.bind ?_ (fun _ => ?_)
  ·intro b c d e f g i j l m
   unfold shutterref07_Wrong.j4
   repeat' first
   | (with_reducible exact n _ _ _ _ _ _ _ _ _ _ _)
   | (with_reducible exact o _ _ _ _ _ _ _ _ _ _ _)
   | (with_reducible exact p _ _ _ _ _ _ _ _ _ _ _)
   | (with_reducible exact q _ _ _ _ _ _ _ _ _ _ _)
   | (with_reducible exact s _ _ _ _ _ _ _ _ _ _)
   | (with_reducible exact shutterref05_Chars.mono _ _)
   | (with_reducible exact LeO.refl _)
   | (with_reducible exact LeO.none _)
   | (with_reducible refine LeO.ite ?_ ?_)
   | (with_reducible refine LeO.bind ?_ (fun _ => ?_))
   | exact n _ _ _ _ _ _ _ _ _ _ _
   | exact o _ _ _ _ _ _ _ _ _ _ _
   | exact p _ _ _ _ _ _ _ _ _ _ _
   | exact q _ _ _ _ _ _ _ _ _ _ _
   | exact s _ _ _ _ _ _ _ _ _ _
   | exact shutterref05_Chars.mono _ _
   | exact LeO.none _
   | refine LeO.ite ?_ ?_
   | refine LeO.bind ?_ (fun _ => ?_)
theorem shutterref07_Wrong.mono : ∀ a0 a1 g h a4 i j l m k, LeO (shutterref07_Wrong.f k a0 a1 g h a4 i j l m) (shutterref07_Wrong.f (k + 1) a0 a1 g h a4 i j l m) := by
 intro a0 a1 g h a4 i j l m k
 obtain ⟨a, b, c, d, e⟩ := shutterref07_Wrong.mono_l k
 unfold shutterref07_Wrong.f
 repeat' first
   | (with_reducible exact a _ _ _ _ _ _ _ _ _ _ _)
   | (with_reducible exact b _ _ _ _ _ _ _ _ _ _ _)
   | (with_reducible exact c _ _ _ _ _ _ _ _ _ _ _)
   | (with_reducible exact d _ _ _ _ _ _ _ _ _ _ _)
   | (with_reducible exact e _ _ _ _ _ _ _ _ _ _)
   | (with_reducible exact shutterref05_Chars.mono _ _)
   | (with_reducible exact LeO.refl _)
   | (with_reducible exact LeO.none _)
   | (with_reducible refine LeO.ite ?_ ?_)
   | (with_reducible refine LeO.bind ?_ (fun _ => ?_))
   | exact a _ _ _ _ _ _ _ _ _ _ _
   | exact b _ _ _ _ _ _ _ _ _ _ _
   | exact c _ _ _ _ _ _ _ _ _ _ _
   | exact d _ _ _ _ _ _ _ _ _ _ _
   | exact e _ _ _ _ _ _ _ _ _ _
   | exact shutterref05_Chars.mono _ _
   | exact LeO.none _
   | refine LeO.ite ?_ ?_
   | refine LeO.bind ?_ (fun _ => ?_)
theorem shutterref07_Wrong.calls (k : Nat) (a : Int) (v : Option Addr) (x : Nat) (c : List Int) (j l : Bool) (g : Int) (m : Bool) (b i a1 r : Int) (w : World) (dc : Kd.C (Kd.int .u8) w v c.length c) (db : c.length ≤ x) (h : shutterref07_Wrong.f k a c j l g m b i a1 = some r) :
  Calls Tryz.prog 24 #[.agg #[.int .i64 a, .slice v c.length x, .bool j, .bool l, .int .i64 g, .bool m, .int .i64 b, .int .u8 i], .int .i64 a1] w fun e w' => e = .returned (.int .i64 r) ∧ Below w.heap.size w w' := by
 have eW := Tryz.underlying49
 have eV := Tryz.underlying45
 have di := Z dc
 have dh := Z db
 clear dc db
 have HB := Z (Below.refl w.heap.size w)
 unfold shutterref07_Wrong.f at h
 have H := h
 clear h
 have df := Z H
 clear H
 go_enter Tryz.func24, Tryz.ntmps24
 go_upto_region 2 with (first | ((with_reducible refine gD_ 2 rfl ?_); refine bx_ 2 49 #[.int .i64 a, .slice v c.length x, .bool j, .bool l, .int .i64 g, .bool m, .int .i64 b, .int .u8 i] ?_; intro s hg w4 hbox hb; have d := Z hbox; have eS := ln' w hg; replace HB := bs_ hb; clear hb hbox hg; have y := cells8 d.out))
 (try simp only [Act.put, sA, sB, sC])
 go_cut [13] (fun eM wc => ∃ (kq : Nat) (bT : Bool), eM = .bool bT ∧ Aside0 (shutterref07_Wrong.j0 kq a1 a bT a c j l g m b i = some r) ∧ Aside0 (kq ≤ k) ∧ Aside0 (wc.heap[s]? = some (.cells #[.int .i64 a, (.slice v c.length x), .bool j, .bool l, .int .i64 g, .bool m, .int .i64 b, .int .u8 i] 49 (0, 0))) ∧ Aside0 (Below w.heap.size w wc))
 case first =>
  have H := df.out
  clear df
  by_cases c6 : a < 1
  ·rw [if_pos c6] at H
   have o := decide_eq_true c6
   clear c6
   (first | rw [o] | (simp only [i64_w, i32_w]; rw [o]) | skip)
   have H' := Z H
   clear H
   go_wp2
   go_meet
   case rel => exact ⟨_, (true), (dn_), H', ⟨by first | omega | exact Nat.le_refl _⟩, ⟨vK d.out⟩, ⟨bl_⟩⟩
  rw [if_neg c6] at H
  have o := decide_eq_false c6
  clear c6
  (first | rw [o] | (simp only [i64_w, i32_w]; rw [o]) | skip)
  have H' := Z H
  clear H
  go_wp2
  go_meet
  case rel => exact ⟨_, (decide (a > 7)), (dn_), H', ⟨by first | omega | exact Nat.le_refl _⟩, ⟨vK d.out⟩, ⟨bl_⟩⟩
 clear df
 try clear y
 obtain ⟨kq, bT, rfl, HA, u, d, HB⟩ := hcut
 cases kq with
 | zero => exact absurd HA.out (by simp [shutterref07_Wrong.j0])
 | succ cR =>
  have H := HA.out
  clear HA
  simp only [shutterref07_Wrong.j0] at H
  by_cases c7 : bT = true
  ·subst c7
   rw [if_pos rfl] at H
   obtain rfl := Option.some.inj H
   go_wp2
   go_ret
   exact ⟨er_, bl_⟩
  replace c7 := Bool.eq_false_iff.mpr c7
  subst c7
  rw [iF_] at H
  have dg := Z H
  clear H
  go_upto_region 4 with (fail)
  go_cut [26] (fun eN wc => ∃ (kq : Nat) (bU : Bool), eN = .bool bU ∧ Aside0 (shutterref07_Wrong.j1 kq a1 a bU a c j l g m b i = some r) ∧ Aside0 (kq ≤ cR) ∧ Aside0 (wc.heap[s]? = some (.cells #[.int .i64 a, (.slice v c.length x), .bool j, .bool l, .int .i64 g, .bool m, .int .i64 b, .int .u8 i] 49 (0, 0))) ∧ Aside0 (Below w.heap.size w wc))
  case first =>
   have H := dg.out
   clear dg
   by_cases c9 : ((a == 1) != (decide ((c.length : Int) > 0))) = true
   ·rw [if_pos c9] at H
    have q : ((a == 1) != (decide ((c.length : Int) > 0))) = true := c9
    (try (have bX : decide ((a == 1) = (decide ((c.length : Int) > 0))) = false := by simpa using c9))
    (try (have bY : ((a == 1) == (decide ((c.length : Int) > 0))) = false := by simpa using c9))
    (try (have eU : ¬ ((a == 1) = (decide ((c.length : Int) > 0))) := by simpa using c9))
    clear c9
    (first | rw [q] | (simp only [i64_w, i32_w]; rw [q]) | skip)
    have H' := Z H
    clear H
    cases hk_ : (a == 1)
    ·have hl_ : decide (0 < c.length) = true := by rw [hk_] at q; simpa using q
     clear q
     try clear bX
     try clear bY
     try clear eU
     have T := cells8 d.out
     go_wp2
     go_meet
     case rel => exact ⟨_, (true), (dn_), H', ⟨by have := u.out; first | omega | exact Nat.le_refl _⟩, ⟨vK d.out⟩, ⟨bl_⟩⟩
    have hl_ : decide (0 < c.length) = false := by rw [hk_] at q; simpa using q
    clear q
    try clear bX
    try clear bY
    try clear eU
    have T := cells8 d.out
    go_wp2
    go_meet
    case rel => exact ⟨_, (true), (dn_), H', ⟨by have := u.out; first | omega | exact Nat.le_refl _⟩, ⟨vK d.out⟩, ⟨bl_⟩⟩
   rw [if_neg c9] at H
   have q : ((a == 1) != (decide ((c.length : Int) > 0))) = false := by simpa using c9
   (try (have bX : decide ((a == 1) = (decide ((c.length : Int) > 0))) = true := by simpa using c9))
   (try (have bY : ((a == 1) == (decide ((c.length : Int) > 0))) = true := by simpa using c9))
   clear c9
   (first | rw [q] | (simp only [i64_w, i32_w]; rw [q]) | skip)
   replace H := bn_ H
   obtain ⟨bZ, eL, H⟩ := H
   have H' := Z H
   clear H
   cases hk_ : (a == 1)
   ·have hl_ : decide (0 < c.length) = false := by rw [hk_] at q; simpa using q
    clear q
    try clear bX
    try clear bY
    have ac := cells8 d.out
    go_wp2_with (first | (go_at_call 44; (with_reducible refine (shutterref05_Chars.calls cR _ _ c bZ _ ?side1 ?side2 eL.out).mono ?_); (case side1 => repeat (first | exact (Kd.C_below di.out HB.out) | (with_reducible apply pC))); (case side2 => exact dh.out); rintro e w' ⟨rfl, ⟨nd, rfl⟩⟩))
    go_meet
    case rel => exact ⟨_, (!bZ), (dn_), H', ⟨by have := u.out; first | omega | exact Nat.le_refl _⟩, ⟨vK d.out⟩, ⟨bl_⟩⟩
   have hl_ : decide (0 < c.length) = true := by rw [hk_] at q; simpa using q
   clear q
   try clear bX
   try clear bY
   have ac := cells8 d.out
   go_wp2_with (first | (go_at_call 44; (with_reducible refine (shutterref05_Chars.calls cR _ _ c bZ _ ?side1 ?side2 eL.out).mono ?_); (case side1 => repeat (first | exact (Kd.C_below di.out HB.out) | (with_reducible apply pC))); (case side2 => exact dh.out); rintro e w' ⟨rfl, ⟨nd, rfl⟩⟩))
   go_meet
   case rel => exact ⟨_, (!bZ), (dn_), H', ⟨by have := u.out; first | omega | exact Nat.le_refl _⟩, ⟨vK d.out⟩, ⟨bl_⟩⟩
  clear dg
  try clear c7
  try clear y
  obtain ⟨kq, bU, rfl, HA, aC, d, HB⟩ := hcut
  cases kq with
  | zero => exact absurd HA.out (by simp [shutterref07_Wrong.j1])
  | succ cW =>
   have H := HA.out
   clear HA
   simp only [shutterref07_Wrong.j1] at H
   by_cases bV : bU = true
   ·subst bV
    rw [if_pos rfl] at H
    obtain rfl := Option.some.inj H
    go_wp2
    go_ret
    exact ⟨er_, bl_⟩
   replace bV := Bool.eq_false_iff.mpr bV
   subst bV
   rw [iF_] at H
   have cX := Z H
   clear H
   go_upto_region 6 with (fail)
   go_cut [50] (fun eO wc => ∃ (kq : Nat) (aG : Bool), eO = .bool aG ∧ Aside0 (shutterref07_Wrong.j2 kq a1 a aG a c j l g m b i = some r) ∧ Aside0 (kq ≤ cW) ∧ Aside0 (wc.heap[s]? = some (.cells #[.int .i64 a, (.slice v c.length x), .bool j, .bool l, .int .i64 g, .bool m, .int .i64 b, .int .u8 i] 49 (0, 0))) ∧ Aside0 (Below w.heap.size w wc))
   case first =>
    have H := cX.out
    clear cX
    by_cases aD : a = 2
    rotate_left
    ·rw [if_neg aD] at H
     obtain ⟨n, bQ⟩ := eF_ aD
     (first | rw [n] | (simp only [i64_w, i32_w]; rw [n]) | skip)
     have H' := Z H
     clear H
     have a9 := cells8 d.out
     go_wp2
     go_meet
     case rel => exact ⟨_, ((j || (l || (!(g == 0) || (m))))), (dn_), H', ⟨by have := u.out; have := aC.out; first | omega | exact Nat.le_refl _⟩, ⟨vK d.out⟩, ⟨bl_⟩⟩
    rw [if_pos aD] at H
    obtain ⟨n, bQ⟩ := eT_ aD
    clear aD
    (first | rw [n] | (simp only [i64_w, i32_w]; rw [n]) | skip)
    by_cases aE : g < 0
    ·rw [if_pos aE] at H
     have bR := decide_eq_true aE
     clear aE
     have H' := Z H
     clear H
     have aK := cells8 d.out
     go_wp2
     go_meet
     case rel => exact ⟨_, (true), (dn_), H', ⟨by have := u.out; have := aC.out; first | omega | exact Nat.le_refl _⟩, ⟨vK d.out⟩, ⟨bl_⟩⟩
    rw [if_neg aE] at H
    have bR := decide_eq_false aE
    clear aE
    by_cases aF : g > 3
    ·rw [if_pos aF] at H
     have bS : decide (3 < g) = true := decide_eq_true aF
     clear aF
     have H' := Z H
     clear H
     have aS := cells8 d.out
     go_wp2
     go_meet
     case rel => exact ⟨_, (true), (dn_), H', ⟨by have := u.out; have := aC.out; first | omega | exact Nat.le_refl _⟩, ⟨vK d.out⟩, ⟨bl_⟩⟩
    rw [if_neg aF] at H
    have bS : decide (3 < g) = false := decide_eq_false aF
    clear aF
    have H' := Z H
    clear H
    have a0 := cells8 d.out
    go_wp2
    go_meet
    case rel => exact ⟨_, (false), (dn_), H', ⟨by have := u.out; have := aC.out; first | omega | exact Nat.le_refl _⟩, ⟨vK d.out⟩, ⟨bl_⟩⟩
   clear cX
   try clear c7
   try clear bV
   try clear y
   obtain ⟨kq, aG, rfl, HA, aJ, d, HB⟩ := hcut
   cases kq with
   | zero => exact absurd HA.out (by simp [shutterref07_Wrong.j2])
   | succ R =>
    have H := HA.out
    clear HA
    simp only [shutterref07_Wrong.j2] at H
    by_cases b0 : aG = true
    ·subst b0
     rw [if_pos rfl] at H
     obtain rfl := Option.some.inj H
     go_wp2
     go_ret
     exact ⟨er_, bl_⟩
    replace b0 := Bool.eq_false_iff.mpr b0
    subst b0
    rw [iF_] at H
    have cY := Z H
    clear H
    go_upto_region 8 with (fail)
    go_cut [67] (fun eP wc => ∃ (kq : Nat) (aH : Bool), eP = .bool aH ∧ Aside0 (shutterref07_Wrong.j3 kq a1 a aH a c j l g m b i = some r) ∧ Aside0 (kq ≤ R) ∧ Aside0 (wc.heap[s]? = some (.cells #[.int .i64 a, (.slice v c.length x), .bool j, .bool l, .int .i64 g, .bool m, .int .i64 b, .int .u8 i] 49 (0, 0))) ∧ Aside0 (Below w.heap.size w wc))
    case first =>
     have H := cY.out
     clear cY
     by_cases c24 : a = 6
     rotate_left
     ·rw [if_neg c24] at H
      obtain ⟨p, cS⟩ := eF_ c24
      (first | rw [p] | (simp only [i64_w, i32_w]; rw [p]) | skip)
      have H' := Z H
      clear H
      have ck := cells8 d.out
      go_wp2
      go_meet
      case rel => exact ⟨_, ((i != 0)), (dn_), H', ⟨by have := u.out; have := aC.out; have := aJ.out; first | omega | exact Nat.le_refl _⟩, ⟨vK d.out⟩, ⟨bl_⟩⟩
     rw [if_pos c24] at H
     obtain ⟨p, cS⟩ := eT_ c24
     clear c24
     (first | rw [p] | (simp only [i64_w, i32_w]; rw [p]) | skip)
     replace H := bn_ H
     obtain ⟨cU, dn, H⟩ := H
     by_cases b1 : cU = true
     ·subst b1
      rw [if_pos rfl] at H
      have H' := Z H
      clear H
      have b4 := cells8 d.out
      go_wp2_with (first | (go_at_call 45; (with_reducible refine (shutterref05_Char.calls i true _ dn.out).mono ?_); rintro e w' ⟨rfl, ⟨nd, rfl⟩⟩))
      go_meet
      case rel => exact ⟨_, (false), (dn_), H', ⟨by have := u.out; have := aC.out; have := aJ.out; first | omega | exact Nat.le_refl _⟩, ⟨vK d.out⟩, ⟨bl_⟩⟩
     replace b1 := Bool.eq_false_iff.mpr b1
     subst b1
     rw [iF_] at H
     have H' := Z H
     clear H
     have cc := cells8 d.out
     go_wp2_with (first | (go_at_call 45; (with_reducible refine (shutterref05_Char.calls i false _ dn.out).mono ?_); rintro e w' ⟨rfl, ⟨nd, rfl⟩⟩))
     go_meet
     case rel => exact ⟨_, (true), (dn_), H', ⟨by have := u.out; have := aC.out; have := aJ.out; first | omega | exact Nat.le_refl _⟩, ⟨vK d.out⟩, ⟨bl_⟩⟩
    clear cY
    try clear c7
    try clear bV
    try clear b0
    try clear y
    obtain ⟨kq, aH, rfl, HA, c0, d, HB⟩ := hcut
    cases kq with
    | zero => exact absurd HA.out (by simp [shutterref07_Wrong.j3])
    | succ cT =>
     have H := HA.out
     clear HA
     simp only [shutterref07_Wrong.j3] at H
     by_cases cV : aH = true
     ·subst cV
      rw [if_pos rfl] at H
      obtain rfl := Option.some.inj H
      go_wp2
      go_ret
      exact ⟨er_, bl_⟩
     replace cV := Bool.eq_false_iff.mpr cV
     subst cV
     rw [iF_] at H
     have cZ := Z H
     clear H
     go_upto_region 10 with (fail)
     go_cut [77] (fun eQ wc => ∃ (kq : Nat) (aI : Bool), eQ = .bool aI ∧ Aside0 (shutterref07_Wrong.j4 kq a1 aI a c j l g m b i = some r) ∧ Aside0 (kq ≤ cT) ∧ Aside0 (wc.heap[s]? = some (.cells #[.int .i64 a, (.slice v c.length x), .bool j, .bool l, .int .i64 g, .bool m, .int .i64 b, .int .u8 i] 49 (0, 0))) ∧ Aside0 (Below w.heap.size w wc))
     case first =>
      have H := cZ.out
      clear cZ
      by_cases bO : a = 3
      ·rw [if_pos bO] at H
       obtain ⟨S, c4⟩ := eT_ bO
       clear bO
       (first | rw [S] | (simp only [i64_w, i32_w]; rw [S]) | skip)
       have H' := Z H
       clear H
       go_wp2
       go_meet
       case rel => exact ⟨_, (false), (dn_), H', ⟨by have := u.out; have := aC.out; have := aJ.out; have := c0.out; first | omega | exact Nat.le_refl _⟩, ⟨vK d.out⟩, ⟨bl_⟩⟩
      rw [if_neg bO] at H
      obtain ⟨S, c4⟩ := eF_ bO
      (first | rw [S] | (simp only [i64_w, i32_w]; rw [S]) | skip)
      by_cases bP : a = 6
      ·rw [if_pos bP] at H
       obtain ⟨c5, c8⟩ := eT_ bP
       clear bP
       have H' := Z H
       clear H
       go_wp2
       go_meet
       case rel => exact ⟨_, (false), (dn_), H', ⟨by have := u.out; have := aC.out; have := aJ.out; have := c0.out; first | omega | exact Nat.le_refl _⟩, ⟨vK d.out⟩, ⟨bl_⟩⟩
      rw [if_neg bP] at H
      obtain ⟨c5, c8⟩ := eF_ bP
      have H' := Z H
      clear H
      go_wp2
      go_meet
      case rel => exact ⟨_, ((a != 7)), (dn_), H', ⟨by have := u.out; have := aC.out; have := aJ.out; have := c0.out; first | omega | exact Nat.le_refl _⟩, ⟨vK d.out⟩, ⟨bl_⟩⟩
     clear cZ
     try clear c7
     try clear bV
     try clear b0
     try clear cV
     try clear y
     obtain ⟨kq, aI, rfl, HA, eT, d, HB⟩ := hcut
     cases kq with
     | zero => exact absurd HA.out (by simp [shutterref07_Wrong.j4])
     | succ eX =>
      have H := HA.out
      clear HA
      simp only [shutterref07_Wrong.j4] at H
      by_cases da : aI = true
      ·subst da
       rw [if_pos rfl] at H
       by_cases bW : b = 0
       ·rw [if_pos bW] at H
        obtain ⟨dj, dk⟩ := eT_ bW
        clear bW
        obtain rfl := Option.some.inj H
        have dt := cells8 d.out
        go_wp2
        go_ret
        exact ⟨er_, bl_⟩
       rw [if_neg bW] at H
       obtain ⟨dj, dk⟩ := eF_ bW
       obtain rfl := Option.some.inj H
       have dB := cells8 d.out
       go_wp2
       go_ret
       exact ⟨er_, bl_⟩
      replace da := Bool.eq_false_iff.mpr da
      subst da
      rw [iF_] at H
      by_cases b2 : b < 0
      ·rw [if_pos b2] at H
       have dl := decide_eq_true b2
       clear b2
       obtain rfl := Option.some.inj H
       have dJ := cells8 d.out
       go_wp2
       go_ret
       exact ⟨er_, bl_⟩
      rw [if_neg b2] at H
      have dl := decide_eq_false b2
      clear b2
      by_cases b3 : b ≥ a1
      ·rw [if_pos b3] at H
       have dm : decide (a1 ≤ b) = true := decide_eq_true b3
       clear b3
       obtain rfl := Option.some.inj H
       have dR := cells8 d.out
       go_wp2
       go_ret
       exact ⟨er_, bl_⟩
      rw [if_neg b3] at H
      have dm : decide (a1 ≤ b) = false := decide_eq_false b3
      clear b3
      obtain rfl := Option.some.inj H
      have dZ := cells8 d.out
      go_wp2
      go_ret
      exact ⟨er_, bl_⟩

end Go.Proofs.YtphboakgkmjpbaaGreatDoor.P
