/- pp.py and press2.py (wip/tools) wrote this text. -/
import Derived.Test.YtgboplhcjhlabaaDoorPx0
import Derived.Test.YtgboplhcjhlabaaDoorPxS
import Derived.Test.YtgboplhcjhlabaaDoorPx1
import Derived.Test.YtgboplhcjhlabaaDoorPx9
import Derived.Test.YtgboplhcjhlabaaDoorPx10
namespace Go.Proofs.YtgboplhcjhlabaaDoor.P
open Go.RowKit Go.Proofs.YtgboplhcjhlabaaDoorW.PrintWords Go.Proofs.YtgboplhcjhlabaaDoorW.PrintLast Go.Proofs.YtgboplhcjhlabaaDoorW.PrintMore
attribute [local go_sem] max2_int min2_int max_two min_two max_three min_three max_four min_four
attribute [local go_sem] Instr.field asAgg
set_option linter.unusedVariables false
set_option linter.unusedSimpArgs false

attribute [local go_sem high] eqA28
/-! ### shutterref07_Wrong: function 17 -/
mutual
def shutterref07_Wrong.j0 : Nat → Int → Int → Bool → Int → List Int → Bool → Bool → Int → Bool → Int → Int → Option (Int)
 | 0, _, _, _, _, _, _, _, _, _, _, _ => none
 | k + 1, m, l, n, b, a, c, d, e, g, h, i => if n = true then (some 5) else (if ((l == 1) != (decide ((a.length : Int) > 0))) = true then (shutterref07_Wrong.j1 k m l true b a c d e g h i) else ((shutterref05_Chars.f k a).bind fun j => (shutterref07_Wrong.j1 k m l (!j) b a c d e g h i)))
def shutterref07_Wrong.j1 : Nat → Int → Int → Bool → Int → List Int → Bool → Bool → Int → Bool → Int → Int → Option (Int)
 | 0, _, _, _, _, _, _, _, _, _, _, _ => none
 | k + 1, j, i, l, e, f, b, c, a, d, g, h => if l = true then (some 1) else (if i = 2 then (if a < 0 then (shutterref07_Wrong.j2 k j i true e f b c a d g h) else (if a > 3 then (shutterref07_Wrong.j2 k j i true e f b c a d g h) else (shutterref07_Wrong.j2 k j i false e f b c a d g h))) else (shutterref07_Wrong.j2 k j i (b || (c || (!(a == 0) || (d)))) e f b c a d g h))
def shutterref07_Wrong.j2 : Nat → Int → Int → Bool → Int → List Int → Bool → Bool → Int → Bool → Int → Int → Option (Int)
 | 0, _, _, _, _, _, _, _, _, _, _, _ => none
 | k + 1, m, j, n, b, c, d, e, g, h, i, a => if n = true then (some 1) else (if j = 6 then ((shutterref05_Char.f a).bind fun l => (if l = true then (shutterref07_Wrong.j3 k m j false b c d e g h i a) else (shutterref07_Wrong.j3 k m j true b c d e g h i a))) else (shutterref07_Wrong.j3 k m j (a != 0) b c d e g h i a))
def shutterref07_Wrong.j3 : Nat → Int → Int → Bool → Int → List Int → Bool → Bool → Int → Bool → Int → Int → Option (Int)
 | 0, _, _, _, _, _, _, _, _, _, _, _ => none
 | k + 1, i, j, l, a, b, c, d, e, f, g, h => if l = true then (some 1) else (if j = 3 then (shutterref07_Wrong.j4 k i false a b c d e f g h) else (if j = 6 then (shutterref07_Wrong.j4 k i false a b c d e f g h) else (shutterref07_Wrong.j4 k i (j != 7) a b c d e f g h)))
def shutterref07_Wrong.j4 : Nat → Int → Bool → Int → List Int → Bool → Bool → Int → Bool → Int → Int → Option (Int)
 | 0, _, _, _, _, _, _, _, _, _, _ => none
 | k + 1, j, i, b, c, d, e, f, g, a, h => if i = true then (if a = 0 then (some 0) else (some 1)) else (if a < 0 then (some 4) else (if a ≥ j then (some 4) else (some 0)))
end
def shutterref07_Wrong.f (k : Nat) (a : Int) (i : List Int) (b : Bool) (c : Bool) (d : Int) (e : Bool) (g : Int) (h : Int) (a1 : Int) : Option (Int) := if a < 1 then (shutterref07_Wrong.j0 k a1 a true a i b c d e g h) else (shutterref07_Wrong.j0 k a1 a (decide (a > 7)) a i b c d e g h)
theorem shutterref07_Wrong.mono_l : ∀ k, (∀ b c d e f g i j l m a, LeO (shutterref07_Wrong.j0 k b c d e f g i j l m a) (shutterref07_Wrong.j0 (k + 1) b c d e f g i j l m a)) ∧ (∀ b c d e f g i j l m a, LeO (shutterref07_Wrong.j1 k b c d e f g i j l m a) (shutterref07_Wrong.j1 (k + 1) b c d e f g i j l m a)) ∧ (∀ b c d e f g i j l m a, LeO (shutterref07_Wrong.j2 k b c d e f g i j l m a) (shutterref07_Wrong.j2 (k + 1) b c d e f g i j l m a)) ∧ (∀ b c d e f g i j l m a, LeO (shutterref07_Wrong.j3 k b c d e f g i j l m a) (shutterref07_Wrong.j3 (k + 1) b c d e f g i j l m a)) ∧ (∀ b c d e f g i j l m, LeO (shutterref07_Wrong.j4 k b c d e f g i j l m) (shutterref07_Wrong.j4 (k + 1) b c d e f g i j l m))
 | 0 => ⟨fun _ _ _ _ _ _ _ _ _ _ _ r h => by simp [shutterref07_Wrong.j0] at h, fun _ _ _ _ _ _ _ _ _ _ _ r h => by simp [shutterref07_Wrong.j1] at h, fun _ _ _ _ _ _ _ _ _ _ _ r h => by simp [shutterref07_Wrong.j2] at h, fun _ _ _ _ _ _ _ _ _ _ _ r h => by simp [shutterref07_Wrong.j3] at h, fun _ _ _ _ _ _ _ _ _ _ r h => by simp [shutterref07_Wrong.j4] at h⟩
 | k + 1 => by
  obtain ⟨n, o, p, q, s⟩ := shutterref07_Wrong.mono_l k
  refine ⟨?_, ?_, ?_, ?_, ?_⟩
  ·intro b c d e f g i j l m a
   unfold shutterref07_Wrong.j0
   repeat' first
   | (with_reducible exact n _ _ _ _ _ _ _ _ _ _ _)
   | (with_reducible exact o _ _ _ _ _ _ _ _ _ _ _)
   | (with_reducible exact p _ _ _ _ _ _ _ _ _ _ _)
   | (with_reducible exact q _ _ _ _ _ _ _ _ _ _ _)
   | (with_reducible exact s _ _ _ _ _ _ _ _ _ _)
   | (with_reducible exact shutterref05_Chars.mono _ _)
   | (with_reducible exact LeO.refl _)
   | (with_reducible exact LeO.none _)
   | (with_reducible refine LeO.ite ?_ ?_)
   | (with_reducible refine LeO.bind ?_ (fun _ => ?_))
   | exact n _ _ _ _ _ _ _ _ _ _ _
   | exact o _ _ _ _ _ _ _ _ _ _ _
   | exact p _ _ _ _ _ _ _ _ _ _ _
   | exact q _ _ _ _ _ _ _ _ _ _ _
   | exact s _ _ _ _ _ _ _ _ _ _
   | exact shutterref05_Chars.mono _ _
   | exact LeO.none _
   | refine LeO.ite ?_ ?_
   | refine LeO.bind ?_ (fun _ => ?_)
  ·intro b c d e f g i j l m a
   unfold shutterref07_Wrong.j1
   repeat' first
   | (with_reducible exact n _ _ _ _ _ _ _ _ _ _ _)
   | (with_reducible exact o _ _ _ _ _ _ _ _ _ _ _)
   | (with_reducible exact p _ _ _ _ _ _ _ _ _ _ _)
   | (with_reducible exact q _ _ _ _ _ _ _ _ _ _ _)
   | (with_reducible exact s _ _ _ _ _ _ _ _ _ _)
   | (with_reducible exact shutterref05_Chars.mono _ _)
   | (with_reducible exact LeO.refl _)
   | (with_reducible exact LeO.none _)
   | (with_reducible refine LeO.ite ?_ ?_)
   | (with_reducible refine LeO.bind ?_ (fun _ => ?_))
   | exact n _ _ _ _ _ _ _ _ _ _ _
   | exact o _ _ _ _ _ _ _ _ _ _ _
   | exact p _ _ _ _ _ _ _ _ _ _ _
   | exact q _ _ _ _ _ _ _ _ _ _ _
   | exact s _ _ _ _ _ _ _ _ _ _
   | exact shutterref05_Chars.mono _ _
   | exact LeO.none _
   | refine LeO.ite ?_ ?_
   | refine LeO.bind ?_ (fun _ => ?_)
  ·intro b c d e f g i j l m a
   unfold shutterref07_Wrong.j2
   repeat' first
   | (with_reducible exact n _ _ _ _ _ _ _ _ _ _ _)
   | (with_reducible exact o _ _ _ _ _ _ _ _ _ _ _)
   | (with_reducible exact p _ _ _ _ _ _ _ _ _ _ _)
   | (with_reducible exact q _ _ _ _ _ _ _ _ _ _ _)
   | (with_reducible exact s _ _ _ _ _ _ _ _ _ _)
   | (with_reducible exact shutterref05_Chars.mono _ _)
   | (with_reducible exact LeO.refl _)
   | (with_reducible exact LeO.none _)
   | (with_reducible refine LeO.ite ?_ ?_)
   | (with_reducible refine LeO.bind ?_ (fun _ => ?_))
   | exact n _ _ _ _ _ _ _ _ _ _ _
   | exact o _ _ _ _ _ _ _ _ _ _ _
   | exact p _ _ _ _ _ _ _ _ _ _ _
   | exact q _ _ _ _ _ _ _ _ _ _ _
   | exact s _ _ _ _ _ _ _ _ _ _
   | exact shutterref05_Chars.mono _ _
   | exact LeO.none _
   | refine LeO.ite ?_ ?_
   | refine LeO.bind ?_ (fun _ => ?_)
  ·intro b c d e f g i j l m a
   unfold shutterref07_Wrong.j3
   repeat' first
   | (with_reducible exact n _ _ _ _ _ _ _ _ _ _ _)
   | (with_reducible exact o _ _ _ _ _ _ _ _ _ _ _)
   | (with_reducible exact p _ _ _ _ _ _ _ _ _ _ _)
   | (with_reducible exact q _ _ _ _ _ _ _ _ _ _ _)
   | (with_reducible exact s _ _ _ _ _ _ _ _ _ _)
   | (with_reducible exact shutterref05_Chars.mono _ _)
   | (with_reducible exact LeO.refl _)
   | (with_reducible exact LeO.none _)
   | (with_reducible refine LeO.ite ?_ ?_)
   | (with_reducible refine LeO.bind ?_ (fun _ => ?_))
   | exact n _ _ _ _ _ _ _ _ _ _ _
   | exact o _ _ _ _ _ _ _ _ _ _ _
   | exact p _ _ _ _ _ _ _ _ _ _ _
   | exact q _ _ _ _ _ _ _ _ _ _ _
   | exact s _ _ _ _ _ _ _ _ _ _
   | exact shutterref05_Chars.mono _ _
   | exact LeO.none _
   | refine LeO.ite ?_ ?_
   | refine LeO.bind ?_ (fun _ => ?_)
  ·intro b c d e f g i j l m
   unfold shutterref07_Wrong.j4
   repeat' first
   | (with_reducible exact n _ _ _ _ _ _ _ _ _ _ _)
   | (with_reducible exact o _ _ _ _ _ _ _ _ _ _ _)
   | (with_reducible exact p _ _ _ _ _ _ _ _ _ _ _)
   | (with_reducible exact q _ _ _ _ _ _ _ _ _ _ _)
   | (with_reducible exact s _ _ _ _ _ _ _ _ _ _)
   | (with_reducible exact shutterref05_Chars.mono _ _)
   | (with_reducible exact LeO.refl _)
   | (with_reducible exact LeO.none _)
   | (with_reducible refine LeO.ite ?_ ?_)
   | (with_reducible refine LeO.bind ?_ (fun _ => ?_))
   | exact n _ _ _ _ _ _ _ _ _ _ _
   | exact o _ _ _ _ _ _ _ _ _ _ _
   | exact p _ _ _ _ _ _ _ _ _ _ _
   | exact q _ _ _ _ _ _ _ _ _ _ _
   | exact s _ _ _ _ _ _ _ _ _ _
   | exact shutterref05_Chars.mono _ _
   | exact LeO.none _
   | refine LeO.ite ?_ ?_
   | refine LeO.bind ?_ (fun _ => ?_)
theorem shutterref07_Wrong.mono : ∀ a0 a1 g h a4 i j l m k, LeO (shutterref07_Wrong.f k a0 a1 g h a4 i j l m) (shutterref07_Wrong.f (k + 1) a0 a1 g h a4 i j l m) := by
 intro a0 a1 g h a4 i j l m k
 obtain ⟨a, b, c, d, e⟩ := shutterref07_Wrong.mono_l k
 unfold shutterref07_Wrong.f
 repeat' first
   | (with_reducible exact a _ _ _ _ _ _ _ _ _ _ _)
   | (with_reducible exact b _ _ _ _ _ _ _ _ _ _ _)
   | (with_reducible exact c _ _ _ _ _ _ _ _ _ _ _)
   | (with_reducible exact d _ _ _ _ _ _ _ _ _ _ _)
   | (with_reducible exact e _ _ _ _ _ _ _ _ _ _)
   | (with_reducible exact shutterref05_Chars.mono _ _)
   | (with_reducible exact LeO.refl _)
   | (with_reducible exact LeO.none _)
   | (with_reducible refine LeO.ite ?_ ?_)
   | (with_reducible refine LeO.bind ?_ (fun _ => ?_))
   | exact a _ _ _ _ _ _ _ _ _ _ _
   | exact b _ _ _ _ _ _ _ _ _ _ _
   | exact c _ _ _ _ _ _ _ _ _ _ _
   | exact d _ _ _ _ _ _ _ _ _ _ _
   | exact e _ _ _ _ _ _ _ _ _ _
   | exact shutterref05_Chars.mono _ _
   | exact LeO.none _
   | refine LeO.ite ?_ ?_
   | refine LeO.bind ?_ (fun _ => ?_)
set_option maxHeartbeats 8000000 in
set_option maxRecDepth 100000 in
theorem shutterref07_Wrong.calls (k : Nat) (a : Int) (v : Option Addr) (x : Nat) (c : List Int) (j : Bool) (l : Bool) (g : Int) (m : Bool) (b : Int) (i : Int) (a1 : Int) (r : Int) (w : World) (dc : Kd.C (Kd.int .u8) w v c.length c) (db : c.length ≤ x) (h : shutterref07_Wrong.f k a c j l g m b i a1 = some r) :
  Calls Tryd.prog 17 #[.agg #[.int .i64 a, .slice v c.length x, .bool j, .bool l, .int .i64 g, .bool m, .int .i64 b, .int .u8 i], .int .i64 a1] w fun e w' => e = .returned (.int .i64 r) ∧ Below w.heap.size w w' := by
 have eX := Tryd.underlying30
 have eW := Tryd.underlying28
 have di := Z dc
 have dh := Z db
 clear dc db
 have HB := Z (Below.refl w.heap.size w)
 have H : (if a < 1 then (shutterref07_Wrong.j0 k a1 a true a c j l g m b i) else (shutterref07_Wrong.j0 k a1 a (decide (a > 7)) a c j l g m b i)) = some r := h
 clear h
 have df := Z H
 clear H
 go_enter Tryd.func17, Tryd.ntmps17
 go_upto_region 2 with (first | ((with_reducible refine gate_dst (N := 2) rfl ?_); refine bx_ 2 30 #[.int .i64 a, .slice v c.length x, .bool j, .bool l, .int .i64 g, .bool m, .int .i64 b, .int .u8 i] ?_; intro s hg w4 hbox hb; have d := Z (hbox); have eT := Z (ln_ hg : w.heap.size ≤ s); have eS := Z (ln_ hg : w.heap.size ≤ s); replace HB := Z (below_step bl_ hb); clear hb hbox hg; obtain ⟨y, z, A, B, D, E, F, G, I, J, K, L, M, O, P, Q⟩ := cells8 d.out))
 (try simp only [Act.put, sA, sB, sC])
 go_cut [13] (fun eN wc => ∃ (kq : Nat) (bT : Bool), eN = .bool bT ∧ Aside0 (shutterref07_Wrong.j0 kq a1 a bT a c j l g m b i = some r) ∧ Aside0 (kq ≤ k) ∧ Aside0 (wc.heap[s]? = some (.cells #[.int .i64 a, (.slice v c.length x), .bool j, .bool l, .int .i64 g, .bool m, .int .i64 b, .int .u8 i] 30 (0, 0))) ∧ Aside0 (Below w.heap.size w wc))
 case first =>
  have H := df.out
  clear df
  by_cases c6 : a < 1
  ·rw [if_pos c6] at H
   have o : decide (a < 1) = true := decide_eq_true c6
   clear c6
   (first | rw [o] | (simp only [i64_w, i32_w]; rw [o]) | skip)
   have H' := Z H
   clear H
   go_wp2
   go_meet
   case rel => exact ⟨_, (true), (dn_), H', ⟨by first | omega | exact Nat.le_refl _⟩, ⟨vK d.out⟩, ⟨bl_⟩⟩
  ·rw [if_neg c6] at H
   have o : decide (a < 1) = false := decide_eq_false c6
   clear c6
   (first | rw [o] | (simp only [i64_w, i32_w]; rw [o]) | skip)
   have H' := Z H
   clear H
   go_wp2
   go_meet
   case rel => exact ⟨_, (decide (a > 7)), (dn_), H', ⟨by first | omega | exact Nat.le_refl _⟩, ⟨vK d.out⟩, ⟨bl_⟩⟩
 case rest =>
  clear df
  try clear c1
  try clear p2
  try clear c6
  try clear o
  try clear y
  try clear z
  try clear A
  try clear B
  try clear D
  try clear E
  try clear F
  try clear G
  try clear I
  try clear J
  try clear K
  try clear L
  try clear M
  try clear O
  try clear P
  try clear Q
  obtain ⟨kq, bT, rfl, HA, u, d, HB⟩ := hcut
  cases kq with
  | zero => exact absurd HA.out (by simp [shutterref07_Wrong.j0])
  | succ cR =>
   have H := HA.out
   clear HA
   simp only [shutterref07_Wrong.j0] at H
   by_cases c7 : bT = true
   ·subst c7
    have H1 : (some 5) = some r := by rw [if_pos rfl] at H; exact H
    clear H
    have H := H1
    clear H1
    obtain rfl := Option.some.inj H
    go_wp2
    go_ret
    exact ⟨er_, bl_⟩
   ·replace c7 := Bool.eq_false_iff.mpr c7
    subst c7
    have H1 : (if ((a == 1) != (decide ((c.length : Int) > 0))) = true then (shutterref07_Wrong.j1 cR a1 a true a c j l g m b i) else ((shutterref05_Chars.f cR c).bind fun bZ => (shutterref07_Wrong.j1 cR a1 a (!bZ) a c j l g m b i))) = some r := by rw [if_neg (show ¬ (false = true) by decide)] at H; exact H
    clear H
    have H := H1
    clear H1
    have dg := Z H
    clear H
    go_upto_region 4 with (fail)
    go_cut [26] (fun eO wc => ∃ (kq : Nat) (bU : Bool), eO = .bool bU ∧ Aside0 (shutterref07_Wrong.j1 kq a1 a bU a c j l g m b i = some r) ∧ Aside0 (kq ≤ cR) ∧ Aside0 (wc.heap[s]? = some (.cells #[.int .i64 a, (.slice v c.length x), .bool j, .bool l, .int .i64 g, .bool m, .int .i64 b, .int .u8 i] 30 (0, 0))) ∧ Aside0 (Below w.heap.size w wc))
    case first =>
     have H := dg.out
     clear dg
     by_cases c9 : ((a == 1) != (decide ((c.length : Int) > 0))) = true
     ·rw [if_pos c9] at H
      have q : ((a == 1) != (decide ((c.length : Int) > 0))) = true := c9
      (try (have bX : decide ((a == 1) = (decide ((c.length : Int) > 0))) = false := by simpa using c9))
      (try (have bY : ((a == 1) == (decide ((c.length : Int) > 0))) = false := by simpa using c9))
      (try (have eV : ¬ ((a == 1) = (decide ((c.length : Int) > 0))) := by simpa using c9))
      clear c9
      (first | rw [q] | (simp only [i64_w, i32_w]; rw [q]) | skip)
      have H' := Z H
      clear H
      cases hk_ : (a == 1)
      · have hl_ : decide (0 < c.length) = true := by rw [hk_] at q; simpa using q
        clear q
        try clear bX
        try clear bY
        try clear eV
        obtain ⟨T, U, V, W, X, Y, aa, ab, ak, al, am, an, ao, ap, aq, ar⟩ := cells8 d.out
        go_wp2
        go_meet
        case rel => exact ⟨_, (true), (dn_), H', ⟨by have := u.out; first | omega | exact Nat.le_refl _⟩, ⟨vK d.out⟩, ⟨bl_⟩⟩
      · have hl_ : decide (0 < c.length) = false := by rw [hk_] at q; simpa using q
        clear q
        try clear bX
        try clear bY
        try clear eV
        obtain ⟨T, U, V, W, X, Y, aa, ab, ak, al, am, an, ao, ap, aq, ar⟩ := cells8 d.out
        go_wp2
        go_meet
        case rel => exact ⟨_, (true), (dn_), H', ⟨by have := u.out; first | omega | exact Nat.le_refl _⟩, ⟨vK d.out⟩, ⟨bl_⟩⟩
     ·rw [if_neg c9] at H
      have q : ((a == 1) != (decide ((c.length : Int) > 0))) = false := by simpa using c9
      (try (have bX : decide ((a == 1) = (decide ((c.length : Int) > 0))) = true := by simpa using c9))
      (try (have bY : ((a == 1) == (decide ((c.length : Int) > 0))) = true := by simpa using c9))
      clear c9
      (first | rw [q] | (simp only [i64_w, i32_w]; rw [q]) | skip)
      replace H := Option.bind_eq_some_iff.mp H
      obtain ⟨bZ, dd, H⟩ := H
      replace H : (shutterref07_Wrong.j1 cR a1 a (!bZ) a c j l g m b i) = some r := H
      have eM := Z dd
      clear dd
      have H' := Z H
      clear H
      cases hk_ : (a == 1)
      · have hl_ : decide (0 < c.length) = false := by rw [hk_] at q; simpa using q
        clear q
        try clear bX
        try clear bY
        obtain ⟨ac, ad, ae, af, ag, ah, ai, aj, au, av, aw, ax, ay, az, aA, aB⟩ := cells8 d.out
        go_wp2_with (first | (go_at_call 40; (with_reducible refine (shutterref05_Chars.calls cR _ _ c bZ _ ?side1 ?side2 eM.out).mono ?_); (case side1 => repeat (first | exact (Kd.C_below di.out HB.out) | (with_reducible apply pC))); (case side2 => exact dh.out); rintro e w' ⟨rfl, ⟨nd, rfl⟩⟩))
        go_meet
        case rel => exact ⟨_, (!bZ), (dn_), H', ⟨by have := u.out; first | omega | exact Nat.le_refl _⟩, ⟨vK d.out⟩, ⟨bl_⟩⟩
      · have hl_ : decide (0 < c.length) = true := by rw [hk_] at q; simpa using q
        clear q
        try clear bX
        try clear bY
        obtain ⟨ac, ad, ae, af, ag, ah, ai, aj, au, av, aw, ax, ay, az, aA, aB⟩ := cells8 d.out
        go_wp2_with (first | (go_at_call 40; (with_reducible refine (shutterref05_Chars.calls cR _ _ c bZ _ ?side1 ?side2 eM.out).mono ?_); (case side1 => repeat (first | exact (Kd.C_below di.out HB.out) | (with_reducible apply pC))); (case side2 => exact dh.out); rintro e w' ⟨rfl, ⟨nd, rfl⟩⟩))
        go_meet
        case rel => exact ⟨_, (!bZ), (dn_), H', ⟨by have := u.out; first | omega | exact Nat.le_refl _⟩, ⟨vK d.out⟩, ⟨bl_⟩⟩
    case rest =>
     clear dg
     try clear c1
     try clear p2
     try clear c6
     try clear o
     try clear c7
     try clear c9
     try clear q
     try clear bX
     try clear bY
     try clear T
     try clear U
     try clear V
     try clear W
     try clear X
     try clear Y
     try clear aa
     try clear ab
     try clear ac
     try clear ad
     try clear ae
     try clear af
     try clear ag
     try clear ah
     try clear ai
     try clear aj
     try clear y
     try clear z
     try clear A
     try clear B
     try clear D
     try clear E
     try clear F
     try clear G
     try clear ak
     try clear al
     try clear am
     try clear an
     try clear ao
     try clear ap
     try clear aq
     try clear ar
     try clear au
     try clear av
     try clear aw
     try clear ax
     try clear ay
     try clear az
     try clear aA
     try clear aB
     try clear I
     try clear J
     try clear K
     try clear L
     try clear M
     try clear O
     try clear P
     try clear Q
     try clear p2
     obtain ⟨kq, bU, rfl, HA, aC, d, HB⟩ := hcut
     cases kq with
     | zero => exact absurd HA.out (by simp [shutterref07_Wrong.j1])
     | succ cW =>
      have H := HA.out
      clear HA
      simp only [shutterref07_Wrong.j1] at H
      by_cases bV : bU = true
      ·subst bV
       have H1 : (some 1) = some r := by rw [if_pos rfl] at H; exact H
       clear H
       have H := H1
       clear H1
       obtain rfl := Option.some.inj H
       go_wp2
       go_ret
       exact ⟨er_, bl_⟩
      ·replace bV := Bool.eq_false_iff.mpr bV
       subst bV
       have H1 : (if a = 2 then (if g < 0 then (shutterref07_Wrong.j2 cW a1 a true a c j l g m b i) else (if g > 3 then (shutterref07_Wrong.j2 cW a1 a true a c j l g m b i) else (shutterref07_Wrong.j2 cW a1 a false a c j l g m b i))) else (shutterref07_Wrong.j2 cW a1 a (j || (l || (!(g == 0) || (m)))) a c j l g m b i)) = some r := by rw [if_neg (show ¬ (false = true) by decide)] at H; exact H
       clear H
       have H := H1
       clear H1
       have cX := Z H
       clear H
       go_upto_region 6 with (fail)
       go_cut [50] (fun eP wc => ∃ (kq : Nat) (aG : Bool), eP = .bool aG ∧ Aside0 (shutterref07_Wrong.j2 kq a1 a aG a c j l g m b i = some r) ∧ Aside0 (kq ≤ cW) ∧ Aside0 (wc.heap[s]? = some (.cells #[.int .i64 a, (.slice v c.length x), .bool j, .bool l, .int .i64 g, .bool m, .int .i64 b, .int .u8 i] 30 (0, 0))) ∧ Aside0 (Below w.heap.size w wc))
       case first =>
        have H := cX.out
        clear cX
        by_cases aD : a = 2
        ·rw [if_pos aD] at H
         have n : (a == 2) = true := beq_iff_eq.mpr aD
         have bQ : (a != 2) = false := bne_eq_false_iff_eq.mpr aD
         clear aD
         (first | rw [n] | (simp only [i64_w, i32_w]; rw [n]) | skip)
         by_cases aE : g < 0
         ·rw [if_pos aE] at H
          have bR : decide (g < 0) = true := decide_eq_true aE
          clear aE
          have H' := Z H
          clear H
          obtain ⟨aK, aL, aM, aN, aO, aP, aQ, aR, bh, bi, bj, bk, bl, bm, bn, bo⟩ := cells8 d.out
          go_wp2
          go_meet
          case rel => exact ⟨_, (true), (dn_), H', ⟨by have := u.out; have := aC.out; first | omega | exact Nat.le_refl _⟩, ⟨vK d.out⟩, ⟨bl_⟩⟩
         ·rw [if_neg aE] at H
          have bR : decide (g < 0) = false := decide_eq_false aE
          clear aE
          by_cases aF : g > 3
          ·rw [if_pos aF] at H
           have bS : decide (3 < g) = true := decide_eq_true aF
           clear aF
           have H' := Z H
           clear H
           obtain ⟨aS, aT, aU, aV, aW, aX, aY, aZ, bp, bq, br, bs, bt, bu, bv, bw⟩ := cells8 d.out
           go_wp2
           go_meet
           case rel => exact ⟨_, (true), (dn_), H', ⟨by have := u.out; have := aC.out; first | omega | exact Nat.le_refl _⟩, ⟨vK d.out⟩, ⟨bl_⟩⟩
          ·rw [if_neg aF] at H
           have bS : decide (3 < g) = false := decide_eq_false aF
           clear aF
           have H' := Z H
           clear H
           obtain ⟨a0, a2, a3, a4, a5, a6, a7, a8, bx, bz, bA, bB, bC, bD, bE, bF⟩ := cells8 d.out
           go_wp2
           go_meet
           case rel => exact ⟨_, (false), (dn_), H', ⟨by have := u.out; have := aC.out; first | omega | exact Nat.le_refl _⟩, ⟨vK d.out⟩, ⟨bl_⟩⟩
        ·rw [if_neg aD] at H
         have n : (a == 2) = false := beq_eq_false_iff_ne.mpr aD
         have bQ : (a != 2) = true := bne_iff_ne.mpr aD
         (first | rw [n] | (simp only [i64_w, i32_w]; rw [n]) | skip)
         have H' := Z H
         clear H
         obtain ⟨a9, ba, bb, bc, bd, be, bf, bg, bG, bH, bI, bJ, bK, bL, bM, bN⟩ := cells8 d.out
         go_wp2
         go_meet
         case rel => exact ⟨_, ((j || (l || (!(g == 0) || (m))))), (dn_), H', ⟨by have := u.out; have := aC.out; first | omega | exact Nat.le_refl _⟩, ⟨vK d.out⟩, ⟨bl_⟩⟩
       case rest =>
        clear cX
        try clear c1
        try clear p2
        try clear c6
        try clear o
        try clear c7
        try clear c9
        try clear q
        try clear bX
        try clear bY
        try clear bV
        try clear aD
        try clear n
        try clear bQ
        try clear aE
        try clear bR
        try clear dp
        try clear aF
        try clear bS
        try clear T
        try clear U
        try clear V
        try clear W
        try clear X
        try clear Y
        try clear aa
        try clear ab
        try clear ac
        try clear ad
        try clear ae
        try clear af
        try clear ag
        try clear ah
        try clear ai
        try clear aj
        try clear aK
        try clear aL
        try clear aM
        try clear aN
        try clear aO
        try clear aP
        try clear aQ
        try clear aR
        try clear aS
        try clear aT
        try clear aU
        try clear aV
        try clear aW
        try clear aX
        try clear aY
        try clear aZ
        try clear a0
        try clear a2
        try clear a3
        try clear a4
        try clear a5
        try clear a6
        try clear a7
        try clear a8
        try clear a9
        try clear ba
        try clear bb
        try clear bc
        try clear bd
        try clear be
        try clear bf
        try clear bg
        try clear y
        try clear z
        try clear A
        try clear B
        try clear D
        try clear E
        try clear F
        try clear G
        try clear ak
        try clear al
        try clear am
        try clear an
        try clear ao
        try clear ap
        try clear aq
        try clear ar
        try clear au
        try clear av
        try clear aw
        try clear ax
        try clear ay
        try clear az
        try clear aA
        try clear aB
        try clear bh
        try clear bi
        try clear bj
        try clear bk
        try clear bl
        try clear bm
        try clear bn
        try clear bo
        try clear bp
        try clear bq
        try clear br
        try clear bs
        try clear bt
        try clear bu
        try clear bv
        try clear bw
        try clear bx
        try clear bz
        try clear bA
        try clear bB
        try clear bC
        try clear bD
        try clear bE
        try clear bF
        try clear bG
        try clear bH
        try clear bI
        try clear bJ
        try clear bK
        try clear bL
        try clear bM
        try clear bN
        try clear I
        try clear J
        try clear K
        try clear L
        try clear M
        try clear O
        try clear P
        try clear Q
        try clear p2
        obtain ⟨kq, aG, rfl, HA, aJ, d, HB⟩ := hcut
        cases kq with
        | zero => exact absurd HA.out (by simp [shutterref07_Wrong.j2])
        | succ R =>
         have H := HA.out
         clear HA
         simp only [shutterref07_Wrong.j2] at H
         by_cases b0 : aG = true
         ·subst b0
          have H1 : (some 1) = some r := by rw [if_pos rfl] at H; exact H
          clear H
          have H := H1
          clear H1
          obtain rfl := Option.some.inj H
          go_wp2
          go_ret
          exact ⟨er_, bl_⟩
         ·replace b0 := Bool.eq_false_iff.mpr b0
          subst b0
          have H1 : (if a = 6 then ((shutterref05_Char.f i).bind fun cU => (if cU = true then (shutterref07_Wrong.j3 R a1 a false a c j l g m b i) else (shutterref07_Wrong.j3 R a1 a true a c j l g m b i))) else (shutterref07_Wrong.j3 R a1 a (i != 0) a c j l g m b i)) = some r := by rw [if_neg (show ¬ (false = true) by decide)] at H; exact H
          clear H
          have H := H1
          clear H1
          have cY := Z H
          clear H
          go_upto_region 8 with (fail)
          go_cut [67] (fun eQ wc => ∃ (kq : Nat) (aH : Bool), eQ = .bool aH ∧ Aside0 (shutterref07_Wrong.j3 kq a1 a aH a c j l g m b i = some r) ∧ Aside0 (kq ≤ R) ∧ Aside0 (wc.heap[s]? = some (.cells #[.int .i64 a, (.slice v c.length x), .bool j, .bool l, .int .i64 g, .bool m, .int .i64 b, .int .u8 i] 30 (0, 0))) ∧ Aside0 (Below w.heap.size w wc))
          case first =>
           have H := cY.out
           clear cY
           by_cases c24 : a = 6
           ·rw [if_pos c24] at H
            have p : (a == 6) = true := beq_iff_eq.mpr c24
            have cS : (a != 6) = false := bne_eq_false_iff_eq.mpr c24
            clear c24
            (first | rw [p] | (simp only [i64_w, i32_w]; rw [p]) | skip)
            replace H := Option.bind_eq_some_iff.mp H
            obtain ⟨cU, de, H⟩ := H
            replace H : (if cU = true then (shutterref07_Wrong.j3 R a1 a false a c j l g m b i) else (shutterref07_Wrong.j3 R a1 a true a c j l g m b i)) = some r := H
            have dn := Z de
            clear de
            by_cases b1 : cU = true
            ·subst b1
             have H1 : (shutterref07_Wrong.j3 R a1 a false a c j l g m b i) = some r := by rw [if_pos rfl] at H; exact H
             clear H
             have H := H1
             clear H1
             have H' := Z H
             clear H
             obtain ⟨b4, b5, b6, b7, b8, b9, ca, cb, ct, cu, cv, cw, cx, cy, cz, cA⟩ := cells8 d.out
             go_wp2_with (first | (go_at_call 41; (with_reducible refine (shutterref05_Char.calls i true _ dn.out).mono ?_); rintro e w' ⟨rfl, ⟨nd, rfl⟩⟩))
             go_meet
             case rel => exact ⟨_, (false), (dn_), H', ⟨by have := u.out; have := aC.out; have := aJ.out; first | omega | exact Nat.le_refl _⟩, ⟨vK d.out⟩, ⟨bl_⟩⟩
            ·replace b1 := Bool.eq_false_iff.mpr b1
             subst b1
             have H1 : (shutterref07_Wrong.j3 R a1 a true a c j l g m b i) = some r := by rw [if_neg (show ¬ (false = true) by decide)] at H; exact H
             clear H
             have H := H1
             clear H1
             have H' := Z H
             clear H
             obtain ⟨cc, cd, ce, cf, cg, ch, ci, cj, cB, cC, cD, cE, cF, cG, cH, cI⟩ := cells8 d.out
             go_wp2_with (first | (go_at_call 41; (with_reducible refine (shutterref05_Char.calls i false _ dn.out).mono ?_); rintro e w' ⟨rfl, ⟨nd, rfl⟩⟩))
             go_meet
             case rel => exact ⟨_, (true), (dn_), H', ⟨by have := u.out; have := aC.out; have := aJ.out; first | omega | exact Nat.le_refl _⟩, ⟨vK d.out⟩, ⟨bl_⟩⟩
           ·rw [if_neg c24] at H
            have p : (a == 6) = false := beq_eq_false_iff_ne.mpr c24
            have cS : (a != 6) = true := bne_iff_ne.mpr c24
            (first | rw [p] | (simp only [i64_w, i32_w]; rw [p]) | skip)
            have H' := Z H
            clear H
            obtain ⟨ck, cl, cm, cn, co, cp, cq, cr, cJ, cK, cL, cM, cN, cO, cP, cQ⟩ := cells8 d.out
            go_wp2
            go_meet
            case rel => exact ⟨_, ((i != 0)), (dn_), H', ⟨by have := u.out; have := aC.out; have := aJ.out; first | omega | exact Nat.le_refl _⟩, ⟨vK d.out⟩, ⟨bl_⟩⟩
          case rest =>
           clear cY
           try clear c1
           try clear c2
           try clear p2
           try clear c6
           try clear o
           try clear c7
           try clear c9
           try clear q
           try clear bX
           try clear bY
           try clear bV
           try clear aD
           try clear n
           try clear bQ
           try clear aE
           try clear bR
           try clear dp
           try clear aF
           try clear bS
           try clear b0
           try clear c24
           try clear p
           try clear cS
           try clear b1
           try clear T
           try clear U
           try clear V
           try clear W
           try clear X
           try clear Y
           try clear aa
           try clear ab
           try clear ac
           try clear ad
           try clear ae
           try clear af
           try clear ag
           try clear ah
           try clear ai
           try clear aj
           try clear aK
           try clear aL
           try clear aM
           try clear aN
           try clear aO
           try clear aP
           try clear aQ
           try clear aR
           try clear aS
           try clear aT
           try clear aU
           try clear aV
           try clear aW
           try clear aX
           try clear aY
           try clear aZ
           try clear a0
           try clear a2
           try clear a3
           try clear a4
           try clear a5
           try clear a6
           try clear a7
           try clear a8
           try clear a9
           try clear ba
           try clear bb
           try clear bc
           try clear bd
           try clear be
           try clear bf
           try clear bg
           try clear b4
           try clear b5
           try clear b6
           try clear b7
           try clear b8
           try clear b9
           try clear ca
           try clear cb
           try clear cc
           try clear cd
           try clear ce
           try clear cf
           try clear cg
           try clear ch
           try clear ci
           try clear cj
           try clear ck
           try clear cl
           try clear cm
           try clear cn
           try clear co
           try clear cp
           try clear cq
           try clear cr
           try clear y
           try clear z
           try clear A
           try clear B
           try clear D
           try clear E
           try clear F
           try clear G
           try clear ak
           try clear al
           try clear am
           try clear an
           try clear ao
           try clear ap
           try clear aq
           try clear ar
           try clear au
           try clear av
           try clear aw
           try clear ax
           try clear ay
           try clear az
           try clear aA
           try clear aB
           try clear bh
           try clear bi
           try clear bj
           try clear bk
           try clear bl
           try clear bm
           try clear bn
           try clear bo
           try clear bp
           try clear bq
           try clear br
           try clear bs
           try clear bt
           try clear bu
           try clear bv
           try clear bw
           try clear bx
           try clear bz
           try clear bA
           try clear bB
           try clear bC
           try clear bD
           try clear bE
           try clear bF
           try clear bG
           try clear bH
           try clear bI
           try clear bJ
           try clear bK
           try clear bL
           try clear bM
           try clear bN
           try clear ct
           try clear cu
           try clear cv
           try clear cw
           try clear cx
           try clear cy
           try clear cz
           try clear cA
           try clear cB
           try clear cC
           try clear cD
           try clear cE
           try clear cF
           try clear cG
           try clear cH
           try clear cI
           try clear cJ
           try clear cK
           try clear cL
           try clear cM
           try clear cN
           try clear cO
           try clear cP
           try clear cQ
           try clear I
           try clear J
           try clear K
           try clear L
           try clear M
           try clear O
           try clear P
           try clear Q
           try clear p2
           obtain ⟨kq, aH, rfl, HA, c0, d, HB⟩ := hcut
           cases kq with
           | zero => exact absurd HA.out (by simp [shutterref07_Wrong.j3])
           | succ cT =>
            have H := HA.out
            clear HA
            simp only [shutterref07_Wrong.j3] at H
            by_cases cV : aH = true
            ·subst cV
             have H1 : (some 1) = some r := by rw [if_pos rfl] at H; exact H
             clear H
             have H := H1
             clear H1
             obtain rfl := Option.some.inj H
             go_wp2
             go_ret
             exact ⟨er_, bl_⟩
            ·replace cV := Bool.eq_false_iff.mpr cV
             subst cV
             have H1 : (if a = 3 then (shutterref07_Wrong.j4 cT a1 false a c j l g m b i) else (if a = 6 then (shutterref07_Wrong.j4 cT a1 false a c j l g m b i) else (shutterref07_Wrong.j4 cT a1 (a != 7) a c j l g m b i))) = some r := by rw [if_neg (show ¬ (false = true) by decide)] at H; exact H
             clear H
             have H := H1
             clear H1
             have cZ := Z H
             clear H
             go_upto_region 10 with (fail)
             go_cut [77] (fun eR wc => ∃ (kq : Nat) (aI : Bool), eR = .bool aI ∧ Aside0 (shutterref07_Wrong.j4 kq a1 aI a c j l g m b i = some r) ∧ Aside0 (kq ≤ cT) ∧ Aside0 (wc.heap[s]? = some (.cells #[.int .i64 a, (.slice v c.length x), .bool j, .bool l, .int .i64 g, .bool m, .int .i64 b, .int .u8 i] 30 (0, 0))) ∧ Aside0 (Below w.heap.size w wc))
             case first =>
              have H := cZ.out
              clear cZ
              by_cases bO : a = 3
              ·rw [if_pos bO] at H
               have S : (a == 3) = true := beq_iff_eq.mpr bO
               have c4 : (a != 3) = false := bne_eq_false_iff_eq.mpr bO
               clear bO
               (first | rw [S] | (simp only [i64_w, i32_w]; rw [S]) | skip)
               have H' := Z H
               clear H
               go_wp2
               go_meet
               case rel => exact ⟨_, (false), (dn_), H', ⟨by have := u.out; have := aC.out; have := aJ.out; have := c0.out; first | omega | exact Nat.le_refl _⟩, ⟨vK d.out⟩, ⟨bl_⟩⟩
              ·rw [if_neg bO] at H
               have S : (a == 3) = false := beq_eq_false_iff_ne.mpr bO
               have c4 : (a != 3) = true := bne_iff_ne.mpr bO
               (first | rw [S] | (simp only [i64_w, i32_w]; rw [S]) | skip)
               by_cases bP : a = 6
               ·rw [if_pos bP] at H
                have c5 : (a == 6) = true := beq_iff_eq.mpr bP
                have c8 : (a != 6) = false := bne_eq_false_iff_eq.mpr bP
                clear bP
                have H' := Z H
                clear H
                go_wp2
                go_meet
                case rel => exact ⟨_, (false), (dn_), H', ⟨by have := u.out; have := aC.out; have := aJ.out; have := c0.out; first | omega | exact Nat.le_refl _⟩, ⟨vK d.out⟩, ⟨bl_⟩⟩
               ·rw [if_neg bP] at H
                have c5 : (a == 6) = false := beq_eq_false_iff_ne.mpr bP
                have c8 : (a != 6) = true := bne_iff_ne.mpr bP
                have H' := Z H
                clear H
                go_wp2
                go_meet
                case rel => exact ⟨_, ((a != 7)), (dn_), H', ⟨by have := u.out; have := aC.out; have := aJ.out; have := c0.out; first | omega | exact Nat.le_refl _⟩, ⟨vK d.out⟩, ⟨bl_⟩⟩
             case rest =>
              clear cZ
              try clear c1
              try clear c2
              try clear p2
              try clear c3
              try clear c6
              try clear o
              try clear c7
              try clear c9
              try clear q
              try clear bX
              try clear bY
              try clear bV
              try clear aD
              try clear n
              try clear bQ
              try clear aE
              try clear bR
              try clear dp
              try clear aF
              try clear bS
              try clear b0
              try clear c24
              try clear p
              try clear cS
              try clear b1
              try clear cV
              try clear bO
              try clear S
              try clear c4
              try clear bP
              try clear c5
              try clear c8
              try clear T
              try clear U
              try clear V
              try clear W
              try clear X
              try clear Y
              try clear aa
              try clear ab
              try clear ac
              try clear ad
              try clear ae
              try clear af
              try clear ag
              try clear ah
              try clear ai
              try clear aj
              try clear aK
              try clear aL
              try clear aM
              try clear aN
              try clear aO
              try clear aP
              try clear aQ
              try clear aR
              try clear aS
              try clear aT
              try clear aU
              try clear aV
              try clear aW
              try clear aX
              try clear aY
              try clear aZ
              try clear a0
              try clear a2
              try clear a3
              try clear a4
              try clear a5
              try clear a6
              try clear a7
              try clear a8
              try clear a9
              try clear ba
              try clear bb
              try clear bc
              try clear bd
              try clear be
              try clear bf
              try clear bg
              try clear b4
              try clear b5
              try clear b6
              try clear b7
              try clear b8
              try clear b9
              try clear ca
              try clear cb
              try clear cc
              try clear cd
              try clear ce
              try clear cf
              try clear cg
              try clear ch
              try clear ci
              try clear cj
              try clear ck
              try clear cl
              try clear cm
              try clear cn
              try clear co
              try clear cp
              try clear cq
              try clear cr
              try clear y
              try clear z
              try clear A
              try clear B
              try clear D
              try clear E
              try clear F
              try clear G
              try clear ak
              try clear al
              try clear am
              try clear an
              try clear ao
              try clear ap
              try clear aq
              try clear ar
              try clear au
              try clear av
              try clear aw
              try clear ax
              try clear ay
              try clear az
              try clear aA
              try clear aB
              try clear bh
              try clear bi
              try clear bj
              try clear bk
              try clear bl
              try clear bm
              try clear bn
              try clear bo
              try clear bp
              try clear bq
              try clear br
              try clear bs
              try clear bt
              try clear bu
              try clear bv
              try clear bw
              try clear bx
              try clear bz
              try clear bA
              try clear bB
              try clear bC
              try clear bD
              try clear bE
              try clear bF
              try clear bG
              try clear bH
              try clear bI
              try clear bJ
              try clear bK
              try clear bL
              try clear bM
              try clear bN
              try clear ct
              try clear cu
              try clear cv
              try clear cw
              try clear cx
              try clear cy
              try clear cz
              try clear cA
              try clear cB
              try clear cC
              try clear cD
              try clear cE
              try clear cF
              try clear cG
              try clear cH
              try clear cI
              try clear cJ
              try clear cK
              try clear cL
              try clear cM
              try clear cN
              try clear cO
              try clear cP
              try clear cQ
              try clear I
              try clear J
              try clear K
              try clear L
              try clear M
              try clear O
              try clear P
              try clear Q
              try clear p2
              obtain ⟨kq, aI, rfl, HA, eU, d, HB⟩ := hcut
              cases kq with
              | zero => exact absurd HA.out (by simp [shutterref07_Wrong.j4])
              | succ eY =>
               have H := HA.out
               clear HA
               simp only [shutterref07_Wrong.j4] at H
               by_cases da : aI = true
               ·subst da
                have H1 : (if b = 0 then (some 0) else (some 1)) = some r := by rw [if_pos rfl] at H; exact H
                clear H
                have H := H1
                clear H1
                by_cases bW : b = 0
                ·rw [if_pos bW] at H
                 have dj : (b == 0) = true := beq_iff_eq.mpr bW
                 have dk : (b != 0) = false := bne_eq_false_iff_eq.mpr bW
                 clear bW
                 obtain rfl := Option.some.inj H
                 obtain ⟨du, dv, dw, dx, dy, dz, dA, dB, d8, d9, ea, eb, ec, ed, ee, ef⟩ := cells8 d.out
                 go_wp2
                 go_ret
                 exact ⟨er_, bl_⟩
                ·rw [if_neg bW] at H
                 have dj : (b == 0) = false := beq_eq_false_iff_ne.mpr bW
                 have dk : (b != 0) = true := bne_iff_ne.mpr bW
                 obtain rfl := Option.some.inj H
                 obtain ⟨dC, dD, dE, dF, dG, dH, dI, dJ, eg, eh, ei, ej, ek, el, em, en⟩ := cells8 d.out
                 go_wp2
                 go_ret
                 exact ⟨er_, bl_⟩
               ·replace da := Bool.eq_false_iff.mpr da
                subst da
                have H1 : (if b < 0 then (some 4) else (if b ≥ a1 then (some 4) else (some 0))) = some r := by rw [if_neg (show ¬ (false = true) by decide)] at H; exact H
                clear H
                have H := H1
                clear H1
                by_cases b2 : b < 0
                ·rw [if_pos b2] at H
                 have dl : decide (b < 0) = true := decide_eq_true b2
                 clear b2
                 obtain rfl := Option.some.inj H
                 obtain ⟨dK, dL, dM, dN, dO, dP, dQ, dR, eo, ep, eq, er, es, et, eu, ev⟩ := cells8 d.out
                 go_wp2
                 go_ret
                 exact ⟨er_, bl_⟩
                ·rw [if_neg b2] at H
                 have dl : decide (b < 0) = false := decide_eq_false b2
                 clear b2
                 by_cases b3 : b ≥ a1
                 ·rw [if_pos b3] at H
                  have dm : decide (a1 ≤ b) = true := decide_eq_true b3
                  clear b3
                  obtain rfl := Option.some.inj H
                  obtain ⟨dS, dT, dU, dV, dW, dX, dY, dZ, ew, ex, ey, ez, eA, eB, eC, eD⟩ := cells8 d.out
                  go_wp2
                  go_ret
                  exact ⟨er_, bl_⟩
                 ·rw [if_neg b3] at H
                  have dm : decide (a1 ≤ b) = false := decide_eq_false b3
                  clear b3
                  obtain rfl := Option.some.inj H
                  obtain ⟨d0, d1, d2, d3, d4, d5, d6, d7, eE, eF, eG, eH, eI, eJ, eK, eL⟩ := cells8 d.out
                  go_wp2
                  go_ret
                  exact ⟨er_, bl_⟩

end Go.Proofs.YtgboplhcjhlabaaDoor.P
