/- pp.py and press2.py (wip/tools) wrote this text. -/
import Derived.Test.YtgboplhcjhlabaaDoorPx0
import Derived.Test.YtgboplhcjhlabaaDoorPxS
import Derived.Test.YtgboplhcjhlabaaDoorPx3
import Derived.Test.YtgboplhcjhlabaaDoorPx9
import Derived.Test.YtgboplhcjhlabaaDoorPx9L
import Derived.Test.YtgboplhcjhlabaaDoorPx10
import Derived.Test.YtgboplhcjhlabaaDoorPx11
import Derived.Test.YtgboplhcjhlabaaDoorPx12
import Derived.Test.YtgboplhcjhlabaaDoorPx14
namespace Go.Proofs.YtgboplhcjhlabaaDoor.P
open Go.RowKit Go.Proofs.YtgboplhcjhlabaaDoorW.PrintWords Go.Proofs.YtgboplhcjhlabaaDoorW.PrintLast Go.Proofs.YtgboplhcjhlabaaDoorW.PrintMore
attribute [local go_sem] max2_int min2_int max_two min_two max_three min_three max_four min_four
attribute [local go_sem] Instr.field asAgg
set_option linter.unusedVariables false
set_option linter.unusedSimpArgs false

/-! ### shutterlaw12_PaintOnes: function 3 -/
def shutterlaw12_PaintOnes.j0 : Nat → Int → Bool → Int → Int → List (S44) → Int → Bool → Bool → Int → List Int → Bool → Bool → Int → Bool → Int → Int → Option (Bool)
 | 0, _, _, _, _, _, _, _, _, _, _, _, _, _, _, _, _ => none
 | k + 1, x, y, d, e, b, g, h, i, j, l, m, n, o, p, q, r => if y = true then ((shutterlaw12_awake.f k).bind fun t => (some t)) else (if (b.length : Int) = 0 then (none) else ((paint_One.f k d e b g h i (Int.tmod (wrap64 (x)) (b.length : Int)) j l m n o p q r).bind fun a => ((shutterref07_Wrong.f k j l m n o p q r (b.length : Int)).bind fun s => (if s = 0 then ((shutterref12_One.f k d e b g h i (Int.tmod (wrap64 (x)) (b.length : Int)) j l m n o p q r).bind fun c => (if a.2.2.2.2.2.2.2.1.isNone = true then (if a.2.2.2.2.2.2.1 = c.2.2.2.2.2.2 then ((shutterref10_Same.f k a.1 a.2.1 a.2.2.1 a.2.2.2.1 a.2.2.2.2.1 a.2.2.2.2.2.1 c.1 c.2.1 c.2.2.1 c.2.2.2.1 c.2.2.2.2.1 c.2.2.2.2.2.1).bind fun u => (some u)) else (none)) else (none))) else ((api_Code.f a.2.2.2.2.2.2.2.1 a.2.2.2.2.2.2.2.2).bind fun v => (if v = s then (if a.2.2.2.2.2.2.1 = (Int.tmod (wrap64 (x)) (b.length : Int)) then ((shutterref10_Same.f k a.1 a.2.1 a.2.2.1 a.2.2.2.1 a.2.2.2.2.1 a.2.2.2.2.2.1 d e b g h i).bind fun w => (some w)) else (none)) else (none)))))))
def shutterlaw12_PaintOnes.f (k : Nat) (a : Int) (b : Int) (g : List (S44)) (c : Int) (d : Bool) (e : Bool) (a1 : Int) (i : Int) (h : List Int) (j : Bool) (l : Bool) (m : Int) (n : Bool) (o : Int) (p : Int) : Option (Bool) := (shutterlaw12_awake.f k).bind fun q => (if q = true then ((shutterref10_Few.f k a b g c d e).bind fun r => (if r = true then (shutterlaw12_PaintOnes.j0 k a1 (decide ((h.length : Int) > 300)) a b g c d e i h j l m n o p) else (shutterlaw12_PaintOnes.j0 k a1 true a b g c d e i h j l m n o p))) else (none))
theorem shutterlaw12_PaintOnes.mono_l : ∀ k, (∀ i j l m n o p q s t a b c d e f, LeO (shutterlaw12_PaintOnes.j0 k i j l m n o p q s t a b c d e f) (shutterlaw12_PaintOnes.j0 (k + 1) i j l m n o p q s t a b c d e f))
 | 0 => fun _ _ _ _ _ _ _ _ _ _ _ _ _ _ _ _ r h => by simp [shutterlaw12_PaintOnes.j0] at h
 | k + 1 => by
  have g := shutterlaw12_PaintOnes.mono_l k
  ·intro i j l m n o p q s t a b c d e f
   unfold shutterlaw12_PaintOnes.j0
   repeat' first
   | (with_reducible exact g _ _ _ _ _ _ _ _ _ _ _ _ _ _ _ _)
   | (with_reducible exact paint_One.mono _ _ _ _ _ _ _ _ _ _ _ _ _ _ _ _)
   | (with_reducible exact shutterlaw12_awake.mono _)
   | (with_reducible exact shutterref07_Wrong.mono _ _ _ _ _ _ _ _ _ _)
   | (with_reducible exact shutterref10_Few.mono _ _ _ _ _ _ _)
   | (with_reducible exact shutterref10_Same.mono _ _ _ _ _ _ _ _ _ _ _ _ _)
   | (with_reducible exact shutterref12_One.mono _ _ _ _ _ _ _ _ _ _ _ _ _ _ _ _)
   | (with_reducible exact LeO.refl _)
   | (with_reducible exact LeO.none _)
   | (with_reducible refine LeO.ite ?_ ?_)
   | (with_reducible refine LeO.bind ?_ (fun _ => ?_))
   | exact g _ _ _ _ _ _ _ _ _ _ _ _ _ _ _ _
   | exact paint_One.mono _ _ _ _ _ _ _ _ _ _ _ _ _ _ _ _
   | exact shutterlaw12_awake.mono _
   | exact shutterref07_Wrong.mono _ _ _ _ _ _ _ _ _ _
   | exact shutterref10_Few.mono _ _ _ _ _ _ _
   | exact shutterref10_Same.mono _ _ _ _ _ _ _ _ _ _ _ _ _
   | exact shutterref12_One.mono _ _ _ _ _ _ _ _ _ _ _ _ _ _ _ _
   | exact LeO.none _
   | refine LeO.ite ?_ ?_
   | refine LeO.bind ?_ (fun _ => ?_)
theorem shutterlaw12_PaintOnes.mono : ∀ a0 a1 h i a4 j l m n o a b c d e k, LeO (shutterlaw12_PaintOnes.f k a0 a1 h i a4 j l m n o a b c d e) (shutterlaw12_PaintOnes.f (k + 1) a0 a1 h i a4 j l m n o a b c d e) := by
 intro a0 a1 h i a4 j l m n o a b c d e k
 have g := shutterlaw12_PaintOnes.mono_l k
 unfold shutterlaw12_PaintOnes.f
 repeat' first
   | (with_reducible exact g _ _ _ _ _ _ _ _ _ _ _ _ _ _ _ _)
   | (with_reducible exact paint_One.mono _ _ _ _ _ _ _ _ _ _ _ _ _ _ _ _)
   | (with_reducible exact shutterlaw12_awake.mono _)
   | (with_reducible exact shutterref07_Wrong.mono _ _ _ _ _ _ _ _ _ _)
   | (with_reducible exact shutterref10_Few.mono _ _ _ _ _ _ _)
   | (with_reducible exact shutterref10_Same.mono _ _ _ _ _ _ _ _ _ _ _ _ _)
   | (with_reducible exact shutterref12_One.mono _ _ _ _ _ _ _ _ _ _ _ _ _ _ _ _)
   | (with_reducible exact LeO.refl _)
   | (with_reducible exact LeO.none _)
   | (with_reducible refine LeO.ite ?_ ?_)
   | (with_reducible refine LeO.bind ?_ (fun _ => ?_))
   | exact g _ _ _ _ _ _ _ _ _ _ _ _ _ _ _ _
   | exact paint_One.mono _ _ _ _ _ _ _ _ _ _ _ _ _ _ _ _
   | exact shutterlaw12_awake.mono _
   | exact shutterref07_Wrong.mono _ _ _ _ _ _ _ _ _ _
   | exact shutterref10_Few.mono _ _ _ _ _ _ _
   | exact shutterref10_Same.mono _ _ _ _ _ _ _ _ _ _ _ _ _
   | exact shutterref12_One.mono _ _ _ _ _ _ _ _ _ _ _ _ _ _ _ _
   | exact LeO.none _
   | refine LeO.ite ?_ ?_
   | refine LeO.bind ?_ (fun _ => ?_)
set_option maxHeartbeats 8000000 in
set_option maxRecDepth 100000 in
theorem shutterlaw12_PaintOnes.calls (k : Nat) (x : Int) (y : Int) (ap : Option Addr) (aq : Nat) (d : List (S44)) (z : Int) (A : Bool) (B : Bool) (a1 : Int) (E : Int) (ah : Option Addr) (ai : Nat) (l : List Int) (F : Bool) (G : Bool) (I : Int) (J : Bool) (K : Int) (L : Int) (r : Bool) (w : World) (bi : Kd.C k44 w ap d.length d) (bg : d.length ≤ aq) (bj : Kd.C (Kd.int .u8) w ah l.length l) (bh : l.length ≤ ai) (hG : LaidG w) (h : shutterlaw12_PaintOnes.f k x y d z A B a1 E l F G I J K L = some r) :
  Calls Tryd.prog 3 #[.agg #[.int .i64 x, .int .i64 y, .slice ap d.length aq, .int .i64 z, .bool A, .bool B], .int .u16 a1, .agg #[.int .i64 E, .slice ah l.length ai, .bool F, .bool G, .int .i64 I, .bool J, .int .i64 K, .int .u8 L]] w fun e w' => e = .returned (.bool r) ∧ Below w.heap.size w w' := by
 have HG := Z hG
 clear hG
 have gQ := Tryd.underlying24
 have gR := Tryd.underlying30
 have gS := Tryd.underlying34
 have gT := Tryd.underlying75
 have aK := Z bi
 have aJ := Z bg
 clear bi bg
 have aO := Z bj
 have aN := Z bh
 clear bj bh
 have HB := Z (Below.refl w.heap.size w)
 have H : ((shutterlaw12_awake.f k).bind fun a3 => (if a3 = true then ((shutterref10_Few.f k x y d z A B).bind fun aH => (if aH = true then (shutterlaw12_PaintOnes.j0 k a1 (decide ((l.length : Int) > 300)) x y d z A B E l F G I J K L) else (shutterlaw12_PaintOnes.j0 k a1 true x y d z A B E l F G I J K L))) else (none))) = some r := h
 clear h
 have b6 := Z H
 clear H
 go_enter Tryd.func3, Tryd.ntmps3
 go_upto_region 1 with (first | ((with_reducible refine gate_dst (N := 3) rfl ?_); (try (refine gate_guard (by rfl) ?_; dsimp only)); refine bx_ 3 24 #[.int .i64 x, .int .i64 y, .slice ap d.length aq, .int .i64 z, .bool A, .bool B] ?_; intro ac hg w5 hbox hb; have a := Z (hbox); have aW := Z (ln_ hg : w.heap.size ≤ ac); have gh := Z (ln_ hg : w.heap.size ≤ ac); replace HB := Z (below_step bl_ hb); clear hb hbox hg) | ((with_reducible refine gate_dst (N := 5) rfl ?_); (try (refine gate_guard (by rfl) ?_; dsimp only)); refine bx_ 5 30 #[.int .i64 E, .slice ah l.length ai, .bool F, .bool G, .int .i64 I, .bool J, .int .i64 K, .int .u8 L] ?_; intro ad hg w6 hbox hb; have b := Z (hbox); have aX := Z (ln_ hg : w.heap.size ≤ ad); have gi := Z (ln_ hg : w.heap.size ≤ ad); replace HB := Z (below_step bl_ hb); have an := Z (nl a.out hg); have ao := Z (ng a.out hg); replace a := Z (kb a.out hb); clear hb hbox hg))
 (try simp only [Act.put, sA, sB, sC])
 go_cut [26] (fun gg wc => ∃ (kq : Nat) (aY : Bool), gg = .bool aY ∧ Aside0 (shutterlaw12_PaintOnes.j0 kq a1 aY x y d z A B E l F G I J K L = some r) ∧ Aside0 (kq ≤ k) ∧ Aside0 (wc.heap[ac]? = some (.cells #[.int .i64 x, .int .i64 y, (.slice ap d.length aq), .int .i64 z, .bool A, .bool B] 24 (0, 0))) ∧ Aside0 (wc.heap[ad]? = some (.cells #[.int .i64 E, (.slice ah l.length ai), .bool F, .bool G, .int .i64 I, .bool J, .int .i64 K, .int .u8 L] 30 (0, 0))) ∧ Aside0 (Below w.heap.size w wc))
 case first =>
  have H := b6.out
  clear b6
  replace H := Option.bind_eq_some_iff.mp H
  obtain ⟨a3, ch, H⟩ := H
  replace H : (if a3 = true then ((shutterref10_Few.f k x y d z A B).bind fun aH => (if aH = true then (shutterlaw12_PaintOnes.j0 k a1 (decide ((l.length : Int) > 300)) x y d z A B E l F G I J K L) else (shutterlaw12_PaintOnes.j0 k a1 true x y d z A B E l F G I J K L))) else (none)) = some r := H
  have A7 := Z ch
  clear ch
  by_cases c8 : a3 = true
  ·subst c8
   have H1 : ((shutterref10_Few.f k x y d z A B).bind fun aH => (if aH = true then (shutterlaw12_PaintOnes.j0 k a1 (decide ((l.length : Int) > 300)) x y d z A B E l F G I J K L) else (shutterlaw12_PaintOnes.j0 k a1 true x y d z A B E l F G I J K L))) = some r := by rw [if_pos rfl] at H; exact H
   clear H
   have H := H1
   clear H1
   replace H := Option.bind_eq_some_iff.mp H
   obtain ⟨aH, ci, H⟩ := H
   replace H : (if aH = true then (shutterlaw12_PaintOnes.j0 k a1 (decide ((l.length : Int) > 300)) x y d z A B E l F G I J K L) else (shutterlaw12_PaintOnes.j0 k a1 true x y d z A B E l F G I J K L)) = some r := H
   have A9 := Z ci
   clear ci
   by_cases c10 : aH = true
   ·subst c10
    have H1 : (shutterlaw12_PaintOnes.j0 k a1 (decide ((l.length : Int) > 300)) x y d z A B E l F G I J K L) = some r := by rw [if_pos rfl] at H; exact H
    clear H
    have H := H1
    clear H1
    have H' := Z H
    clear H
    go_wp2_with (first | ((with_reducible refine gate_callee (f := 14) rfl ?_); refine goesL_ (some 14) rfl rfl Tryd.func14 (by kernel_rfl) rfl #[] rfl ag_ ?_; (with_reducible refine (shutterlaw12_awake.calls k  true _ ?sideG A7.out).mono ?_); (case sideG => exact laidG_below HG.out bl_ rfl); rintro e gZ ⟨rfl, hb⟩; refine ⟨_, rfl, ?_⟩; replace a := Z (kb a.out hb); replace b := Z (kb b.out hb); replace HB := Z (below_step bl_ hb); (try clear hb); (try clear aA); (try clear hk); (try clear hi); have gu := an.out; have gF := ao.out; obtain ⟨bk, bl, bm, bn, bo, bp, bF, bG, bH, bI, bJ, bK⟩ := cells6 a.out) | (go_at_call 15; (with_reducible refine (shutterref10_Few.calls k x y _ _ d z A B true _ ?side1 ?side2 A9.out).mono ?_); (case side1 => repeat (first | exact (Kd.C_below aK.out HB.out) | (with_reducible apply pC))); (case side2 => exact aJ.out); rintro e g0 ⟨rfl, hb⟩; replace a := Z (kb a.out hb); replace b := Z (kb b.out hb); replace HB := Z (below_step bl_ hb); (try clear hb); (try clear aA); (try clear hk); (try clear hi); obtain ⟨bq, br, bs, bt, bu, bv, bw, bx, bL, bM, bN, bO, bP, bQ, bR, bS⟩ := cells8 b.out))
    go_meet
    case rel => exact ⟨_, (decide ((l.length : Int) > 300)), (dn_), H', ⟨by first | omega | exact Nat.le_refl _⟩, ⟨vK a.out⟩, ⟨vK b.out⟩, ⟨bl_⟩⟩
   ·replace c10 := Bool.eq_false_iff.mpr c10
    subst c10
    have H1 : (shutterlaw12_PaintOnes.j0 k a1 true x y d z A B E l F G I J K L) = some r := by rw [if_neg (show ¬ (false = true) by decide)] at H; exact H
    clear H
    have H := H1
    clear H1
    have H' := Z H
    clear H
    go_wp2_with (first | ((with_reducible refine gate_callee (f := 14) rfl ?_); refine goesL_ (some 14) rfl rfl Tryd.func14 (by kernel_rfl) rfl #[] rfl ag_ ?_; (with_reducible refine (shutterlaw12_awake.calls k  true _ ?sideG A7.out).mono ?_); (case sideG => exact laidG_below HG.out bl_ rfl); rintro e g1 ⟨rfl, hb⟩; refine ⟨_, rfl, ?_⟩; replace a := Z (kb a.out hb); replace b := Z (kb b.out hb); replace HB := Z (below_step bl_ hb); (try clear hb); (try clear aA); (try clear hk); (try clear hi); have gv := an.out; have gG := ao.out; obtain ⟨bz, bA, bB, bC, bD, bE, bT, bU, bV, bW, bX, bY⟩ := cells6 a.out) | (go_at_call 15; (with_reducible refine (shutterref10_Few.calls k x y _ _ d z A B false _ ?side1 ?side2 A9.out).mono ?_); (case side1 => repeat (first | exact (Kd.C_below aK.out HB.out) | (with_reducible apply pC))); (case side2 => exact aJ.out); rintro e g2 ⟨rfl, hb⟩; replace a := Z (kb a.out hb); replace b := Z (kb b.out hb); replace HB := Z (below_step bl_ hb); (try clear hb); (try clear aA); (try clear hk); (try clear hi)))
    go_meet
    case rel => exact ⟨_, (true), (dn_), H', ⟨by first | omega | exact Nat.le_refl _⟩, ⟨vK a.out⟩, ⟨vK b.out⟩, ⟨bl_⟩⟩
  ·replace c8 := Bool.eq_false_iff.mpr c8
   subst c8
   have H1 : (none) = some r := by rw [if_neg (show ¬ (false = true) by decide)] at H; exact H
   clear H
   have H := H1
   clear H1
   exact absurd H (by simp)
 case rest =>
  clear b6
  try clear c1
  try clear c2
  try clear p2
  try clear c3
  try clear c8
  try clear c10
  try clear gW
  try clear gX
  try clear gY
  try clear bk
  try clear bl
  try clear bm
  try clear bn
  try clear bo
  try clear bp
  try clear bq
  try clear br
  try clear bs
  try clear bt
  try clear bu
  try clear bv
  try clear bw
  try clear bx
  try clear bz
  try clear bA
  try clear bB
  try clear bC
  try clear bD
  try clear bE
  try clear bF
  try clear bG
  try clear bH
  try clear bI
  try clear bJ
  try clear bK
  try clear bL
  try clear bM
  try clear bN
  try clear bO
  try clear bP
  try clear bQ
  try clear bR
  try clear bS
  try clear bT
  try clear bU
  try clear bV
  try clear bW
  try clear bX
  try clear bY
  obtain ⟨kq, aY, rfl, HA, gV, a, b, HB⟩ := hcut
  cases kq with
  | zero => exact absurd HA.out (by simp [shutterlaw12_PaintOnes.j0])
  | succ aa =>
   have H := HA.out
   clear HA
   simp only [shutterlaw12_PaintOnes.j0] at H
   by_cases bf : aY = true
   ·subst bf
    have H1 : ((shutterlaw12_awake.f aa).bind fun a4 => (some a4)) = some r := by rw [if_pos rfl] at H; exact H
    clear H
    have H := H1
    clear H1
    replace H := Option.bind_eq_some_iff.mp H
    obtain ⟨a4, bZ, H⟩ := H
    replace H : (some a4) = some r := H
    have fZ := Z bZ
    clear bZ
    obtain rfl := Option.some.inj H
    go_wp2_with (first | ((with_reducible refine gate_callee (f := 14) rfl ?_); refine goesL_ (some 27) rfl rfl Tryd.func14 (by kernel_rfl) rfl #[] rfl ag_ ?_; (with_reducible refine (shutterlaw12_awake.calls aa  a4 _ ?sideG fZ.out).mono ?_); (case sideG => exact laidG_below HG.out bl_ rfl); rintro e g3 ⟨rfl, hb⟩; refine ⟨_, rfl, ?_⟩; replace a := Z (kb a.out hb); replace b := Z (kb b.out hb); replace HB := Z (below_step bl_ hb); (try clear hb); (try clear aA); (try clear hk); (try clear hi)))
    go_ret
    exact ⟨er_, bl_⟩
   ·replace bf := Bool.eq_false_iff.mpr bf
    subst bf
    have H1 : (if (d.length : Int) = 0 then (none) else ((paint_One.f aa x y d z A B (Int.tmod (wrap64 (a1)) (d.length : Int)) E l F G I J K L).bind fun Q => ((shutterref07_Wrong.f aa E l F G I J K L (d.length : Int)).bind fun T => (if T = 0 then ((shutterref12_One.f aa x y d z A B (Int.tmod (wrap64 (a1)) (d.length : Int)) E l F G I J K L).bind fun M => (if Q.2.2.2.2.2.2.2.1.isNone = true then (if Q.2.2.2.2.2.2.1 = M.2.2.2.2.2.2 then ((shutterref10_Same.f aa Q.1 Q.2.1 Q.2.2.1 Q.2.2.2.1 Q.2.2.2.2.1 Q.2.2.2.2.2.1 M.1 M.2.1 M.2.2.1 M.2.2.2.1 M.2.2.2.2.1 M.2.2.2.2.2.1).bind fun ak => (some ak)) else (none)) else (none))) else ((api_Code.f Q.2.2.2.2.2.2.2.1 Q.2.2.2.2.2.2.2.2).bind fun am => (if am = T then (if Q.2.2.2.2.2.2.1 = (Int.tmod (wrap64 (a1)) (d.length : Int)) then ((shutterref10_Same.f aa Q.1 Q.2.1 Q.2.2.1 Q.2.2.2.1 Q.2.2.2.2.1 Q.2.2.2.2.2.1 x y d z A B).bind fun ay => (some ay)) else (none)) else (none))))))) = some r := by rw [if_neg (show ¬ (false = true) by decide)] at H; exact H
    clear H
    have H := H1
    clear H1
    by_cases a8 : (d.length : Int) = 0
    ·rw [if_pos a8] at H
     exact absurd H (by simp)
    ·rw [if_neg a8] at H
     have gl : ((d.length : Int) == 0) = false := beq_eq_false_iff_ne.mpr a8
     have gm : ((d.length : Int) != 0) = true := bne_iff_ne.mpr a8
     have gn : ¬ (d = []) := fun h_ => a8 (by rw [h_]; rfl)
     replace H := Option.bind_eq_some_iff.mp H
     obtain ⟨⟨U, V, S, W, X, Y, ab, az, aP⟩, b0, H⟩ := H
     replace H : ((shutterref07_Wrong.f aa E l F G I J K L (d.length : Int)).bind fun T => (if T = 0 then ((shutterref12_One.f aa x y d z A B (Int.tmod (wrap64 (a1)) (d.length : Int)) E l F G I J K L).bind fun M => (if az.isNone = true then (if ab = M.2.2.2.2.2.2 then ((shutterref10_Same.f aa U V S W X Y M.1 M.2.1 M.2.2.1 M.2.2.2.1 M.2.2.2.2.1 M.2.2.2.2.2.1).bind fun ak => (some ak)) else (none)) else (none))) else ((api_Code.f az aP).bind fun am => (if am = T then (if ab = (Int.tmod (wrap64 (a1)) (d.length : Int)) then ((shutterref10_Same.f aa U V S W X Y x y d z A B).bind fun ay => (some ay)) else (none)) else (none))))) = some r := H
     have cf := Z b0
     clear b0
     replace H := Option.bind_eq_some_iff.mp H
     obtain ⟨T, b1, H⟩ := H
     replace H : (if T = 0 then ((shutterref12_One.f aa x y d z A B (Int.tmod (wrap64 (a1)) (d.length : Int)) E l F G I J K L).bind fun M => (if az.isNone = true then (if ab = M.2.2.2.2.2.2 then ((shutterref10_Same.f aa U V S W X Y M.1 M.2.1 M.2.2.1 M.2.2.2.1 M.2.2.2.2.1 M.2.2.2.2.2.1).bind fun ak => (some ak)) else (none)) else (none))) else ((api_Code.f az aP).bind fun am => (if am = T then (if ab = (Int.tmod (wrap64 (a1)) (d.length : Int)) then ((shutterref10_Same.f aa U V S W X Y x y d z A B).bind fun ay => (some ay)) else (none)) else (none)))) = some r := H
     have cg := Z b1
     clear b1
     by_cases aZ : T = 0
     ·rw [if_pos aZ] at H
      have cd : (T == 0) = true := beq_iff_eq.mpr aZ
      have ce : (T != 0) = false := bne_eq_false_iff_eq.mpr aZ
      clear aZ
      replace H := Option.bind_eq_some_iff.mp H
      obtain ⟨⟨ar, au, aj, av, aw, ax, aQ⟩, b2, H⟩ := H
      replace H : (if az.isNone = true then (if ab = aQ then ((shutterref10_Same.f aa U V S W X Y ar au aj av aw ax).bind fun ak => (some ak)) else (none)) else (none)) = some r := H
      have ga := Z b2
      clear b2
      rcases az with _ | cp
      ·have H1 : (if ab = aQ then ((shutterref10_Same.f aa U V S W X Y ar au aj av aw ax).bind fun ak => (some ak)) else (none)) = some r := by rw [if_pos (show (none : Option Er).isNone = true by rfl)] at H; exact H
       clear H
       have H := H1
       clear H1
       try simp only [errW_none, errW_some]
       by_cases a9 : ab = aQ
       ·rw [if_pos a9] at H
        have go : (ab == aQ) = true := beq_iff_eq.mpr a9
        have gp : (ab != aQ) = false := bne_eq_false_iff_eq.mpr a9
        clear a9
        replace H := Option.bind_eq_some_iff.mp H
        obtain ⟨ak, b3, H⟩ := H
        replace H : (some ak) = some r := H
        have gb := Z b3
        clear b3
        obtain rfl := Option.some.inj H
        have gw := an.out
        have gH := ao.out
        obtain ⟨ct, cu, cv, cw, cx, cy, eg, eh, ei, ej, ek, el⟩ := cells6 a.out
        obtain ⟨cz, cA, cB, cC, cD, cE, cF, cG, em, en, eo, ep, eq, er, es, et⟩ := cells8 b.out
        go_wp2_with (first | ((with_reducible refine gate_callee (f := 16) rfl ?_); refine goesL_ (some 38) rfl rfl Tryd.func16 (by kernel_rfl) rfl #[.agg #[.int .i64 x, .int .i64 y, .slice ap d.length aq, .int .i64 z, .bool A, .bool B], .int .i64 (Int.tmod (wrap64 (a1)) (d.length : Int)), .agg #[.int .i64 E, .slice ah l.length ai, .bool F, .bool G, .int .i64 I, .bool J, .int .i64 K, .int .u8 L]] rfl ag_ ?_; (with_reducible refine (paint_One.calls aa x y (fun k_ => k_ < w.heap.size) _ _ d z A B (Int.tmod (wrap64 (a1)) (d.length : Int)) E _ _ l F G I J K L U V S W X Y ab none aP _ ?side1 ?side2 ?side3 cf.out).mono ?_); (case side1 => exact Kd.V_mk aJ.out (Kd.F_below (Kd.C_F k44_heap aK.out) bl_)); (case side2 => repeat (first | exact (Kd.C_below aO.out HB.out) | (with_reducible apply pC))); (case side3 => exact aN.out); rintro e g4 ⟨cq, cr, rfl, aL, bc, hb⟩; refine ⟨_, rfl, ?_⟩; have m := Z (Kd.V_lower (Kd.V_mono (ok' := fun k_ => k_ ≠ ac ∧ k_ ≠ ad) aL (fun k_ hk_ => ⟨Or.elim hk_ (fun hs_ => fun e_ => Nat.not_le.2 hs_ (by rw [e_]; exact aW.out)) (fun hn_ => (fb a.out k_ hn_)), Or.elim hk_ (fun hs_ => fun e_ => Nat.not_le.2 hs_ (by rw [e_]; exact aX.out)) (fun hn_ => (fb b.out k_ hn_))⟩)) (below_size bl_)); have v := Z (Kd.V_lower (Kd.V_mono (ok' := fun k_ => k_ ≠ ac ∧ k_ ≠ ad) bc (fun k_ hk_ => ⟨Or.elim hk_ (fun hs_ => fun e_ => Nat.not_le.2 hs_ (by rw [e_]; exact aW.out)) (fun hn_ => (fb a.out k_ hn_)), Or.elim hk_ (fun hs_ => fun e_ => Nat.not_le.2 hs_ (by rw [e_]; exact aX.out)) (fun hn_ => (fb b.out k_ hn_))⟩)) (below_size bl_)); replace a := Z (kb a.out hb); replace b := Z (kb b.out hb); replace HB := Z (below_step bl_ hb); (try clear hb); (try clear aA); (try clear hk); (try clear hi); (try clear aL); (try clear bc); (try simp only [errW_none, errW_some])) | ((with_reducible refine gate_dst (N := 8) rfl ?_); (try (refine gate_guard (by rfl) ?_; dsimp only)); refine bx_ 8 24 #[.int .i64 0, .int .i64 0, .slice none 0 0, .int .i64 0, .bool false, .bool false] ?_; intro i hg g5 hbox hb; replace m := Z (ve m.out hg hb); replace v := Z (ve v.out hg hb); have D := Z (hbox); have cc := Z (ln_ hg : w.heap.size ≤ i); have cb := Z (ln_ hg : w.heap.size ≤ i); replace HB := Z (below_step bl_ hb); have ae := Z (nl a.out hg); have aB := Z (ng a.out hg); replace a := Z (kb a.out hb); have af := Z (nl b.out hg); have aC := Z (ng b.out hg); replace b := Z (kb b.out hb); clear hb hbox hg; have gx := aB.out; have gI := ae.out; have gy := aC.out; have gJ := af.out; obtain ⟨cH, cI, cJ, cK, cL, cM, eu, ev, ew, ex, ey, ez⟩ := cells6 D.out; obtain ⟨a2, a0, cl⟩ := Kd.V_slice m.out; subst cl; obtain ⟨cN, cO, cP, cQ, cR, cS, cT, cU, eA, eB, eC, eD, eE, eF, eG, eH⟩ := cells8 b.out; obtain ⟨cV, cW, cX, cY, cZ, c0, eI, eJ, eK, eL, eM, eN⟩ := cells6 a.out) | ((with_reducible refine gate_callee (f := 17) rfl ?_); refine goesL_ (some 46) rfl rfl Tryd.func17 (by kernel_rfl) rfl #[.agg #[.int .i64 E, .slice ah l.length ai, .bool F, .bool G, .int .i64 I, .bool J, .int .i64 K, .int .u8 L], .int .i64 (d.length : Int)] rfl ag_ ?_; (with_reducible refine (shutterref07_Wrong.calls aa E _ _ l F G I J K L (d.length : Int) T _ ?side1 ?side2 cg.out).mono ?_); (case side1 => exact Kd.C_below aO.out bl_); (case side2 => exact aN.out); rintro e g6 ⟨rfl, hb⟩; refine ⟨_, rfl, ?_⟩; replace m := Z (Kd.V_below (by (with_reducible repeat apply pV); exact (Kd.V_mono (f6V i (Kd.V_mono m.out (fun k_ hk => (⟨hk, hk.2⟩ : _ ∧ k_ ≠ i))) (fun _ hk => hk.2)) (fun _ h_ => h_.1))) hb); replace v := Z (Kd.V_below (by (with_reducible repeat apply pV); exact (Kd.V_mono (f6V i (Kd.V_mono v.out (fun k_ hk => (⟨hk, hk.2⟩ : _ ∧ k_ ≠ i))) (fun _ hk => hk.2)) (fun _ h_ => h_.1))) hb); replace a := Z (blk_below (g := ac) (o := .cells #[.int .i64 x, .int .i64 y, .slice ap d.length aq, .int .i64 z, .bool A, .bool B] 24 (0, 0)) (by (with_reducible repeat apply pK); exact blk_off a.out ae.out off2_) hb); replace b := Z (blk_below (g := ad) (o := .cells #[.int .i64 E, .slice ah l.length ai, .bool F, .bool G, .int .i64 I, .bool J, .int .i64 K, .int .u8 L] 30 (0, 0)) (by (with_reducible repeat apply pK); exact blk_off b.out af.out off2_) hb); replace D := Z (blk_below (g := i) (o := .cells #[.int .i64 U, .int .i64 V, .slice a2 S.length a0, .int .i64 W, .bool X, .bool Y] 24 (0, 0)) (put6 D.out) hb); replace HB := Z (below_step bl_ hb); (try clear hb); (try clear aA); (try clear hk); (try clear hi); obtain ⟨c4, c5, c6, c7, c9, da, eO, eP, eQ, eR, eS, eT⟩ := cells6 a.out; obtain ⟨db, dc, dd, de, df, dg, dh, di, eU, eV, eW, eX, eY, eZ, e0, e1⟩ := cells8 b.out) | ((with_reducible refine gate_callee (f := 20) rfl ?_); refine goesL_ (some 67) rfl rfl Tryd.func20 (by kernel_rfl) rfl #[.agg #[.int .i64 x, .int .i64 y, .slice ap d.length aq, .int .i64 z, .bool A, .bool B], .int .i64 (Int.tmod (wrap64 (a1)) (d.length : Int)), .agg #[.int .i64 E, .slice ah l.length ai, .bool F, .bool G, .int .i64 I, .bool J, .int .i64 K, .int .u8 L]] rfl ag_ ?_; (with_reducible refine (shutterref12_One.calls aa x y _ _ d z A B (Int.tmod (wrap64 (a1)) (d.length : Int)) E _ _ l F G I J K L ar au aj av aw ax aQ _ ?side1 ?side2 ?side3 ?side4 ga.out).mono ?_); (case side1 => repeat (first | exact (Kd.C_below aK.out HB.out) | (with_reducible apply pC))); (case side2 => exact aJ.out); (case side3 => repeat (first | exact (Kd.C_below aO.out HB.out) | (with_reducible apply pC))); (case side4 => exact aN.out); rintro e g7 ⟨gU, rfl, aL, hb⟩; refine ⟨_, rfl, ?_⟩; replace m := Z (Kd.V_elder' (vV m.out) (Kd.R_base aL) hb); replace v := Z (Kd.V_elder' (vV v.out) (Kd.R_base aL) hb); have al := Z (Kd.R_lower aL (below_size bl_)); replace a := Z (kb a.out hb); replace b := Z (kb b.out hb); replace D := Z (kb D.out hb); replace HB := Z (below_step bl_ hb); (try clear hb); (try clear aA); (try clear hk); (try clear hi); (try clear aL)) | ((with_reducible refine gate_dst (N := 12) rfl ?_); (try (refine gate_guard (by rfl) ?_; dsimp only)); refine bx_ 12 24 #[.int .i64 0, .int .i64 0, .slice none 0 0, .int .i64 0, .bool false, .bool false] ?_; intro j hg g8 hbox hb; replace m := Z (ve m.out hg hb); replace v := Z (ve v.out hg hb); replace al := Z (rb al.out hb); have aI := Z (hbox); have gk := Z (ln_ hg : w.heap.size ≤ j); have gj := Z (ln_ hg : w.heap.size ≤ j); replace HB := Z (below_step bl_ hb); have aR := Z (nl a.out hg); have a5 := Z (ng a.out hg); replace a := Z (kb a.out hb); have aS := Z (nl b.out hg); have a6 := Z (ng b.out hg); replace b := Z (kb b.out hb); have aT := Z (nl D.out hg); have a7 := Z (ng D.out hg); replace D := Z (kb D.out hb); clear hb hbox hg; have gz := a5.out; have gK := aR.out; have gA := a6.out; have gL := aS.out; have gB := a7.out; have gM := aT.out; obtain ⟨dj, dk, dl, dm, dn, dp, e2, e3, e4, e5, e6, e7⟩ := cells6 aI.out; obtain ⟨aM, aD, cm⟩ := Kd.R_slice al.out; subst cm; obtain ⟨dq, dr, ds, dt, du, dv, e8, e9, fa, fc, fd, fe⟩ := cells6 D.out) | (go_at_call 19; (with_reducible refine (shutterref10_Same.calls aa U V _ _ S W X Y ar au _ _ aj av aw ax ak _ ?side1 ?side2 ?side3 ?side4 gb.out).mono ?_); (case side1 => refine (Kd.V_reads' (e := 44) (base := w.heap.size) (ok := fun k_ => ((((k_ ≠ ac ∧ k_ ≠ ad) ∧ k_ ≠ i) ∧ some k_ ≠ (.slice aM aj.length aD : Value).ownBlock) ∧ k_ ≠ j)) (n := S.length) (c := a0) ?_).2.2; exact (by (with_reducible repeat apply pV); exact (Kd.V_mono (f6V j (Kd.V_mono m.out (fun k_ hk => (⟨hk, hk.2⟩ : _ ∧ k_ ≠ j))) (fun _ hk => hk.2)) (fun _ h_ => h_.1)))); (case side2 => exact (Kd.V_reads' m.out).2.1); (case side3 => refine (Kd.R_reads' (e := 44) (base := w.heap.size) (ok := fun k_ => True) (n := aj.length) (c := aD) ?_).2.2; exact (by (with_reducible repeat apply pR); exact (Kd.R_mono (f6R j (Kd.R_types al.out aI.out (by decide)) (fun _ hk => hk.2)) (fun _ h_ => h_.1)))); (case side4 => exact (Kd.R_reads' al.out).2.1); rintro e g9 ⟨rfl, hb⟩; replace m := Z (Kd.V_below (by (with_reducible repeat apply pV); exact (Kd.V_mono (f6V j (Kd.V_mono m.out (fun k_ hk => (⟨hk, hk.2⟩ : _ ∧ k_ ≠ j))) (fun _ hk => hk.2)) (fun _ h_ => h_.1))) hb); replace v := Z (Kd.V_below (by (with_reducible repeat apply pV); exact (Kd.V_mono (f6V j (Kd.V_mono v.out (fun k_ hk => (⟨hk, hk.2⟩ : _ ∧ k_ ≠ j))) (fun _ hk => hk.2)) (fun _ h_ => h_.1))) hb); replace al := Z (Kd.R_below (by (with_reducible repeat apply pR); exact (Kd.R_mono (f6R j (Kd.R_types al.out aI.out (by decide)) (fun _ hk => hk.2)) (fun _ h_ => h_.1))) hb); replace a := Z (blk_below (g := ac) (o := .cells #[.int .i64 x, .int .i64 y, .slice ap d.length aq, .int .i64 z, .bool A, .bool B] 24 (0, 0)) (by (with_reducible repeat apply pK); exact blk_off a.out aR.out off2_) hb); replace b := Z (blk_below (g := ad) (o := .cells #[.int .i64 E, .slice ah l.length ai, .bool F, .bool G, .int .i64 I, .bool J, .int .i64 K, .int .u8 L] 30 (0, 0)) (by (with_reducible repeat apply pK); exact blk_off b.out aS.out off2_) hb); replace D := Z (blk_below (g := i) (o := .cells #[.int .i64 U, .int .i64 V, .slice a2 S.length a0, .int .i64 W, .bool X, .bool Y] 24 (0, 0)) (by (with_reducible repeat apply pK); exact blk_off D.out aT.out off2_) hb); replace aI := Z (blk_below (g := j) (o := .cells #[.int .i64 ar, .int .i64 au, .slice aM aj.length aD, .int .i64 av, .bool aw, .bool ax] 24 (0, 0)) (put6 aI.out) hb); replace HB := Z (below_step bl_ hb); (try clear hb); (try clear aA); (try clear hk); (try clear hi)))
        go_ret
        exact ⟨er_, bl_⟩
       ·rw [if_neg a9] at H
        exact absurd H (by simp)
      ·have H1 : (none) = some r := by rw [if_neg (show ¬ (some cp).isNone = true by simp)] at H; exact H
       clear H
       have H := H1
       clear H1
       try simp only [errW_none, errW_some]
       exact absurd H (by simp)
     ·rw [if_neg aZ] at H
      have cd : (T == 0) = false := beq_eq_false_iff_ne.mpr aZ
      have ce : (T != 0) = true := bne_iff_ne.mpr aZ
      replace H := Option.bind_eq_some_iff.mp H
      obtain ⟨am, b4, H⟩ := H
      replace H : (if am = T then (if ab = (Int.tmod (wrap64 (a1)) (d.length : Int)) then ((shutterref10_Same.f aa U V S W X Y x y d z A B).bind fun ay => (some ay)) else (none)) else (none)) = some r := H
      have gc := Z b4
      clear b4
      by_cases ba : am = T
      ·rw [if_pos ba] at H
       have gq : (am == T) = true := beq_iff_eq.mpr ba
       have gr : (am != T) = false := bne_eq_false_iff_eq.mpr ba
       clear ba
       by_cases bb : ab = (Int.tmod (wrap64 (a1)) (d.length : Int))
       ·rw [if_pos bb] at H
        have gs : (ab == (Int.tmod (wrap64 (a1)) (d.length : Int))) = true := beq_iff_eq.mpr bb
        have gt : (ab != (Int.tmod (wrap64 (a1)) (d.length : Int))) = false := bne_eq_false_iff_eq.mpr bb
        clear bb
        replace H := Option.bind_eq_some_iff.mp H
        obtain ⟨ay, b5, H⟩ := H
        replace H : (some ay) = some r := H
        have gd := Z b5
        clear b5
        obtain rfl := Option.some.inj H
        have gC := an.out
        have gN := ao.out
        obtain ⟨dw, dx, dy, dz, dA, dB, ff, fg, fh, fi, fj, fk⟩ := cells6 a.out
        obtain ⟨dC, dD, dE, dF, dG, dH, dI, dJ, fl, fm, fn, fo, fp, fq, fr, fs⟩ := cells8 b.out
        go_wp2_with (first | ((with_reducible refine gate_callee (f := 16) rfl ?_); refine goesL_ (some 38) rfl rfl Tryd.func16 (by kernel_rfl) rfl #[.agg #[.int .i64 x, .int .i64 y, .slice ap d.length aq, .int .i64 z, .bool A, .bool B], .int .i64 (Int.tmod (wrap64 (a1)) (d.length : Int)), .agg #[.int .i64 E, .slice ah l.length ai, .bool F, .bool G, .int .i64 I, .bool J, .int .i64 K, .int .u8 L]] rfl ag_ ?_; (with_reducible refine (paint_One.calls aa x y (fun k_ => k_ < w.heap.size) _ _ d z A B (Int.tmod (wrap64 (a1)) (d.length : Int)) E _ _ l F G I J K L U V S W X Y ab az aP _ ?side1 ?side2 ?side3 cf.out).mono ?_); (case side1 => exact Kd.V_mk aJ.out (Kd.F_below (Kd.C_F k44_heap aK.out) bl_)); (case side2 => repeat (first | exact (Kd.C_below aO.out HB.out) | (with_reducible apply pC))); (case side3 => exact aN.out); rintro e ha ⟨cq, cr, rfl, aL, bc, hb⟩; refine ⟨_, rfl, ?_⟩; have m := Z (Kd.V_lower (Kd.V_mono (ok' := fun k_ => k_ ≠ ac ∧ k_ ≠ ad) aL (fun k_ hk_ => ⟨Or.elim hk_ (fun hs_ => fun e_ => Nat.not_le.2 hs_ (by rw [e_]; exact aW.out)) (fun hn_ => (fb a.out k_ hn_)), Or.elim hk_ (fun hs_ => fun e_ => Nat.not_le.2 hs_ (by rw [e_]; exact aX.out)) (fun hn_ => (fb b.out k_ hn_))⟩)) (below_size bl_)); have v := Z (Kd.V_lower (Kd.V_mono (ok' := fun k_ => k_ ≠ ac ∧ k_ ≠ ad) bc (fun k_ hk_ => ⟨Or.elim hk_ (fun hs_ => fun e_ => Nat.not_le.2 hs_ (by rw [e_]; exact aW.out)) (fun hn_ => (fb a.out k_ hn_)), Or.elim hk_ (fun hs_ => fun e_ => Nat.not_le.2 hs_ (by rw [e_]; exact aX.out)) (fun hn_ => (fb b.out k_ hn_))⟩)) (below_size bl_)); replace a := Z (kb a.out hb); replace b := Z (kb b.out hb); replace HB := Z (below_step bl_ hb); (try clear hb); (try clear aA); (try clear hk); (try clear hi); (try clear aL); (try clear bc); (try simp only [errW_none, errW_some])) | ((with_reducible refine gate_dst (N := 8) rfl ?_); (try (refine gate_guard (by rfl) ?_; dsimp only)); refine bx_ 8 24 #[.int .i64 0, .int .i64 0, .slice none 0 0, .int .i64 0, .bool false, .bool false] ?_; intro i hg hc hbox hb; replace m := Z (ve m.out hg hb); replace v := Z (ve v.out hg hb); have D := Z (hbox); have cc := Z (ln_ hg : w.heap.size ≤ i); have cb := Z (ln_ hg : w.heap.size ≤ i); replace HB := Z (below_step bl_ hb); have ae := Z (nl a.out hg); have aB := Z (ng a.out hg); replace a := Z (kb a.out hb); have af := Z (nl b.out hg); have aC := Z (ng b.out hg); replace b := Z (kb b.out hb); clear hb hbox hg; have gD := aB.out; have gO := ae.out; have gE := aC.out; have gP := af.out; obtain ⟨dK, dL, dM, dN, dO, dP, ft, fu, fv, fw, fx, fy⟩ := cells6 D.out; obtain ⟨bd, be, cn⟩ := Kd.V_slice m.out; subst cn; obtain ⟨dQ, dR, dS, dT, dU, dV, dW, dX, fz, fA, fB, fC, fD, fE, fF, fG⟩ := cells8 b.out; obtain ⟨dY, dZ, d0, d1, d2, d3, fH, fI, fJ, fK, fL, fM⟩ := cells6 a.out) | ((with_reducible refine gate_callee (f := 17) rfl ?_); refine goesL_ (some 46) rfl rfl Tryd.func17 (by kernel_rfl) rfl #[.agg #[.int .i64 E, .slice ah l.length ai, .bool F, .bool G, .int .i64 I, .bool J, .int .i64 K, .int .u8 L], .int .i64 (d.length : Int)] rfl ag_ ?_; (with_reducible refine (shutterref07_Wrong.calls aa E _ _ l F G I J K L (d.length : Int) T _ ?side1 ?side2 cg.out).mono ?_); (case side1 => exact Kd.C_below aO.out bl_); (case side2 => exact aN.out); rintro e he ⟨rfl, hb⟩; refine ⟨_, rfl, ?_⟩; replace m := Z (Kd.V_below (by (with_reducible repeat apply pV); exact (Kd.V_mono (f6V i (Kd.V_mono m.out (fun k_ hk => (⟨hk, hk.2⟩ : _ ∧ k_ ≠ i))) (fun _ hk => hk.2)) (fun _ h_ => h_.1))) hb); replace v := Z (Kd.V_below (by (with_reducible repeat apply pV); exact (Kd.V_mono (f6V i (Kd.V_mono v.out (fun k_ hk => (⟨hk, hk.2⟩ : _ ∧ k_ ≠ i))) (fun _ hk => hk.2)) (fun _ h_ => h_.1))) hb); replace a := Z (blk_below (g := ac) (o := .cells #[.int .i64 x, .int .i64 y, .slice ap d.length aq, .int .i64 z, .bool A, .bool B] 24 (0, 0)) (by (with_reducible repeat apply pK); exact blk_off a.out ae.out off2_) hb); replace b := Z (blk_below (g := ad) (o := .cells #[.int .i64 E, .slice ah l.length ai, .bool F, .bool G, .int .i64 I, .bool J, .int .i64 K, .int .u8 L] 30 (0, 0)) (by (with_reducible repeat apply pK); exact blk_off b.out af.out off2_) hb); replace D := Z (blk_below (g := i) (o := .cells #[.int .i64 U, .int .i64 V, .slice bd S.length be, .int .i64 W, .bool X, .bool Y] 24 (0, 0)) (put6 D.out) hb); replace HB := Z (below_step bl_ hb); (try clear hb); (try clear aA); (try clear hk); (try clear hi); obtain ⟨cj, ck, co⟩ := Kd.V_slice v.out; subst co) | ((with_reducible refine gate_callee (f := 18) rfl ?_); refine goesL_ (some 50) rfl rfl Tryd.func18 (by kernel_rfl) rfl #[errW (.slice cj aP.length ck) az] rfl ag_ ?_; (with_reducible refine (api_Code.calls az _ _ aP am _ ?side1 ?side2 ?sideG gc.out).mono ?_); (case sideG => exact laidG_below HG.out bl_ rfl); (case side1 => repeat (first | exact (Kd.V_reads' v.out).2.2 | (with_reducible apply pC))); (case side2 => exact (Kd.V_reads' v.out).2.1); rintro e hf ⟨rfl, hb⟩; refine ⟨_, rfl, ?_⟩; replace m := Z (vb m.out hb); replace v := Z (vb v.out hb); replace a := Z (kb a.out hb); replace b := Z (kb b.out hb); replace D := Z (kb D.out hb); replace HB := Z (below_step bl_ hb); (try clear hb); (try clear aA); (try clear hk); (try clear hi); obtain ⟨d4, d5, d6, d7, d8, d9, fN, fO, fP, fQ, fR, fS⟩ := cells6 D.out; obtain ⟨ea, eb, ec, ed, ee, ef, fT, fU, fV, fW, fX, fY⟩ := cells6 a.out) | (go_at_call 19; (with_reducible refine (shutterref10_Same.calls aa U V _ _ S W X Y x y _ _ d z A B ay _ ?side1 ?side2 ?side3 ?side4 gd.out).mono ?_); (case side1 => repeat (first | exact (Kd.V_reads' m.out).2.2 | (with_reducible apply pC))); (case side2 => exact (Kd.V_reads' m.out).2.1); (case side3 => repeat (first | exact (Kd.C_below aK.out HB.out) | (with_reducible apply pC))); (case side4 => exact aJ.out); rintro e hh ⟨rfl, hb⟩; replace m := Z (vb m.out hb); replace v := Z (vb v.out hb); replace a := Z (kb a.out hb); replace b := Z (kb b.out hb); replace D := Z (kb D.out hb); replace HB := Z (below_step bl_ hb); (try clear hb); (try clear aA); (try clear hk); (try clear hi)))
        go_ret
        exact ⟨er_, bl_⟩
       ·rw [if_neg bb] at H
        exact absurd H (by simp)
      ·rw [if_neg ba] at H
       exact absurd H (by simp)

end Go.Proofs.YtgboplhcjhlabaaDoor.P
