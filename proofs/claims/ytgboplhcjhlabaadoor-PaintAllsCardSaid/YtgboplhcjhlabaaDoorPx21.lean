/- pp.py and press2.py (wip/tools) wrote this text. -/
import Derived.Test.YtgboplhcjhlabaaDoorPx0
import Derived.Test.YtgboplhcjhlabaaDoorPxS
import Derived.Test.YtgboplhcjhlabaaDoorPx0L
import Derived.Test.YtgboplhcjhlabaaDoorPx3
import Derived.Test.YtgboplhcjhlabaaDoorPx9
import Derived.Test.YtgboplhcjhlabaaDoorPx9L
import Derived.Test.YtgboplhcjhlabaaDoorPx10
import Derived.Test.YtgboplhcjhlabaaDoorPx11
import Derived.Test.YtgboplhcjhlabaaDoorPx12
import Derived.Test.YtgboplhcjhlabaaDoorPx17
import Derived.Test.YtgboplhcjhlabaaDoorPx20
namespace Go.Proofs.YtgboplhcjhlabaaDoor.P
open Go.RowKit Go.Proofs.YtgboplhcjhlabaaDoorW.PrintWords Go.Proofs.YtgboplhcjhlabaaDoorW.PrintLast Go.Proofs.YtgboplhcjhlabaaDoorW.PrintMore
attribute [local go_sem] max2_int min2_int max_two min_two max_three min_three max_four min_four
attribute [local go_sem] Instr.field asAgg
set_option linter.unusedVariables false
set_option linter.unusedSimpArgs false

/-! ### shutterlaw12_PaintAlls: function 7 -/
mutual
def shutterlaw12_PaintAlls.j0 : Nat → Int → List (S30) → Bool → Int → Int → List (S44) → Int → Bool → Bool → Option (Bool)
 | 0, _, _, _, _, _, _, _, _, _ => none
 | k + 1, j, l, m, c, d, b, e, g, h => if m = true then ((shutterlaw12_awake.f k).bind fun i => (some i)) else (if (b.length : Int) = 0 then (none) else ((paint_All.f k c d b e g h (Int.tmod (wrap64 (j)) (b.length : Int)) l).bind fun a => (shutterlaw12_PaintAlls.l0 k l (Int.tmod (wrap64 (j)) (b.length : Int)) a.2.2.2.2.2.2.1 0 c d b e g h a.1 a.2.1 a.2.2.1 a.2.2.2.1 a.2.2.2.2.1 a.2.2.2.2.2.1 a.2.2.2.2.2.2.2.1 a.2.2.2.2.2.2.2.2)))
def shutterlaw12_PaintAlls.l0 : Nat → List (S30) → Int → Int → Int → Int → Int → List (S44) → Int → Bool → Bool → Int → Int → List (S44) → Int → Bool → Bool → Option Er → List (S184) → Option (Bool)
 | 0, _, _, _, _, _, _, _, _, _, _, _, _, _, _, _, _, _, _ => none
 | k + 1, r, x, y, x11, e, g, d, h, i, j, l, m, n, o, p, q, a, c => if x11 < (r.length : Int) then (if 0 ≤ x11 then ((shutterref07_Wrong.f k ((rd_T30 r x11).f0) ((rd_T30 r x11).f1) ((rd_T30 r x11).f2.f0) ((rd_T30 r x11).f2.f1) ((rd_T30 r x11).f2.f2) ((rd_T30 r x11).f2.f3) ((rd_T30 r x11).f3) ((rd_T30 r x11).f4) (d.length : Int)).bind fun s => (if s = 0 then (shutterlaw12_PaintAlls.l0 k r x y (wrap64 (x11 + 1)) e g d h i j l m n o p q a c) else ((api_Code.f a c).bind fun u => (if u = s then ((api_Where.f a c).bind fun v => (if v = x11 then (if y = x then ((shutterref10_Same.f k l m n o p q e g d h i j).bind fun w => (some w)) else (none)) else (none))) else (none))))) else (none)) else ((shutterref12_All.f k e g d h i j x r).bind fun b => (if a.isNone = true then (if y = b.2.2.2.2.2.2 then ((shutterref10_Same.f k l m n o p q b.1 b.2.1 b.2.2.1 b.2.2.2.1 b.2.2.2.2.1 b.2.2.2.2.2.1).bind fun t => (some t)) else (none)) else (none)))
end
def shutterlaw12_PaintAlls.f (k : Nat) (a : Int) (b : Int) (g : List (S44)) (c : Int) (d : Bool) (e : Bool) (a1 : Int) (l2 : List (S30)) : Option (Bool) := (shutterlaw12_awake.f k).bind fun h => (if h = true then ((shutterref10_Few.f k a b g c d e).bind fun i => (if i = true then ((shutterlaw12_few.f k l2).bind fun j => (shutterlaw12_PaintAlls.j0 k a1 l2 (!j) a b g c d e)) else (shutterlaw12_PaintAlls.j0 k a1 l2 true a b g c d e))) else (none))
theorem shutterlaw12_PaintAlls.mono_l : ∀ k, (∀ a b c d e f g i j, LeO (shutterlaw12_PaintAlls.j0 k a b c d e f g i j) (shutterlaw12_PaintAlls.j0 (k + 1) a b c d e f g i j)) ∧ (∀ a b c d e f g i j w n o p q s t u v, LeO (shutterlaw12_PaintAlls.l0 k a b c d e f g i j w n o p q s t u v) (shutterlaw12_PaintAlls.l0 (k + 1) a b c d e f g i j w n o p q s t u v))
 | 0 => ⟨fun _ _ _ _ _ _ _ _ _ r h => by simp [shutterlaw12_PaintAlls.j0] at h, fun _ _ _ _ _ _ _ _ _ _ _ _ _ _ _ _ _ _ r h => by simp [shutterlaw12_PaintAlls.l0] at h⟩
 | k + 1 => by
  obtain ⟨l, m⟩ := shutterlaw12_PaintAlls.mono_l k
  refine ⟨?_, ?_⟩
  ·intro a b c d e f g i j
   unfold shutterlaw12_PaintAlls.j0
   repeat' first
   | (with_reducible exact l _ _ _ _ _ _ _ _ _)
   | (with_reducible exact m _ _ _ _ _ _ _ _ _ _ _ _ _ _ _ _ _ _)
   | (with_reducible exact paint_All.mono _ _ _ _ _ _ _ _ _)
   | (with_reducible exact shutterlaw12_awake.mono _)
   | (with_reducible exact shutterlaw12_few.mono _ _)
   | (with_reducible exact shutterref07_Wrong.mono _ _ _ _ _ _ _ _ _ _)
   | (with_reducible exact shutterref10_Few.mono _ _ _ _ _ _ _)
   | (with_reducible exact shutterref10_Same.mono _ _ _ _ _ _ _ _ _ _ _ _ _)
   | (with_reducible exact shutterref12_All.mono _ _ _ _ _ _ _ _ _)
   | (with_reducible exact LeO.refl _)
   | (with_reducible exact LeO.none _)
   | (with_reducible refine LeO.ite ?_ ?_)
   | (with_reducible refine LeO.bind ?_ (fun _ => ?_))
   | exact l _ _ _ _ _ _ _ _ _
   | exact m _ _ _ _ _ _ _ _ _ _ _ _ _ _ _ _ _ _
   | exact paint_All.mono _ _ _ _ _ _ _ _ _
   | exact shutterlaw12_awake.mono _
   | exact shutterlaw12_few.mono _ _
   | exact shutterref07_Wrong.mono _ _ _ _ _ _ _ _ _ _
   | exact shutterref10_Few.mono _ _ _ _ _ _ _
   | exact shutterref10_Same.mono _ _ _ _ _ _ _ _ _ _ _ _ _
   | exact shutterref12_All.mono _ _ _ _ _ _ _ _ _
   | exact LeO.none _
   | refine LeO.ite ?_ ?_
   | refine LeO.bind ?_ (fun _ => ?_)
  ·intro a b c d e f g i j w n o p q s t u v
   unfold shutterlaw12_PaintAlls.l0
   repeat' first
   | (with_reducible exact l _ _ _ _ _ _ _ _ _)
   | (with_reducible exact m _ _ _ _ _ _ _ _ _ _ _ _ _ _ _ _ _ _)
   | (with_reducible exact paint_All.mono _ _ _ _ _ _ _ _ _)
   | (with_reducible exact shutterlaw12_awake.mono _)
   | (with_reducible exact shutterlaw12_few.mono _ _)
   | (with_reducible exact shutterref07_Wrong.mono _ _ _ _ _ _ _ _ _ _)
   | (with_reducible exact shutterref10_Few.mono _ _ _ _ _ _ _)
   | (with_reducible exact shutterref10_Same.mono _ _ _ _ _ _ _ _ _ _ _ _ _)
   | (with_reducible exact shutterref12_All.mono _ _ _ _ _ _ _ _ _)
   | (with_reducible exact LeO.refl _)
   | (with_reducible exact LeO.none _)
   | (with_reducible refine LeO.ite ?_ ?_)
   | (with_reducible refine LeO.bind ?_ (fun _ => ?_))
   | exact l _ _ _ _ _ _ _ _ _
   | exact m _ _ _ _ _ _ _ _ _ _ _ _ _ _ _ _ _ _
   | exact paint_All.mono _ _ _ _ _ _ _ _ _
   | exact shutterlaw12_awake.mono _
   | exact shutterlaw12_few.mono _ _
   | exact shutterref07_Wrong.mono _ _ _ _ _ _ _ _ _ _
   | exact shutterref10_Few.mono _ _ _ _ _ _ _
   | exact shutterref10_Same.mono _ _ _ _ _ _ _ _ _ _ _ _ _
   | exact shutterref12_All.mono _ _ _ _ _ _ _ _ _
   | exact LeO.none _
   | refine LeO.ite ?_ ?_
   | refine LeO.bind ?_ (fun _ => ?_)
theorem shutterlaw12_PaintAlls.mono : ∀ a0 a1 c d a4 e g h k, LeO (shutterlaw12_PaintAlls.f k a0 a1 c d a4 e g h) (shutterlaw12_PaintAlls.f (k + 1) a0 a1 c d a4 e g h) := by
 intro a0 a1 c d a4 e g h k
 obtain ⟨a, b⟩ := shutterlaw12_PaintAlls.mono_l k
 unfold shutterlaw12_PaintAlls.f
 repeat' first
   | (with_reducible exact a _ _ _ _ _ _ _ _ _)
   | (with_reducible exact b _ _ _ _ _ _ _ _ _ _ _ _ _ _ _ _ _ _)
   | (with_reducible exact paint_All.mono _ _ _ _ _ _ _ _ _)
   | (with_reducible exact shutterlaw12_awake.mono _)
   | (with_reducible exact shutterlaw12_few.mono _ _)
   | (with_reducible exact shutterref07_Wrong.mono _ _ _ _ _ _ _ _ _ _)
   | (with_reducible exact shutterref10_Few.mono _ _ _ _ _ _ _)
   | (with_reducible exact shutterref10_Same.mono _ _ _ _ _ _ _ _ _ _ _ _ _)
   | (with_reducible exact shutterref12_All.mono _ _ _ _ _ _ _ _ _)
   | (with_reducible exact LeO.refl _)
   | (with_reducible exact LeO.none _)
   | (with_reducible refine LeO.ite ?_ ?_)
   | (with_reducible refine LeO.bind ?_ (fun _ => ?_))
   | exact a _ _ _ _ _ _ _ _ _
   | exact b _ _ _ _ _ _ _ _ _ _ _ _ _ _ _ _ _ _
   | exact paint_All.mono _ _ _ _ _ _ _ _ _
   | exact shutterlaw12_awake.mono _
   | exact shutterlaw12_few.mono _ _
   | exact shutterref07_Wrong.mono _ _ _ _ _ _ _ _ _ _
   | exact shutterref10_Few.mono _ _ _ _ _ _ _
   | exact shutterref10_Same.mono _ _ _ _ _ _ _ _ _ _ _ _ _
   | exact shutterref12_All.mono _ _ _ _ _ _ _ _ _
   | exact LeO.none _
   | refine LeO.ite ?_ ?_
   | refine LeO.bind ?_ (fun _ => ?_)
def shutterlaw12_PaintAlls.T8 : Bool × List (List Nat × List Nat) := (true, [([], []), ([], []), ([0, 1], [0, 1]), ([2], [2]), ([], []), ([4], [4]), ([5], [5]), ([3, 6], [3, 6]), ([7, 7, 0, 1, 2, 3, 4, 5, 6, 7], [7])])
def shutterlaw12_PaintAlls.B8 : List Nat := [0, 0, 3, 7, 0, 16, 48, 127, 255]
theorem shutterlaw12_PaintAlls.tab8 : rtab .any (opsOf Tryd.f7 8) = shutterlaw12_PaintAlls.T8 := by kernel_rfl
theorem shutterlaw12_PaintAlls.bits8 : waitsOk shutterlaw12_PaintAlls.T8.2 shutterlaw12_PaintAlls.B8 = true := by kernel_rfl
set_option maxHeartbeats 8000000 in
set_option maxRecDepth 100000 in
theorem shutterlaw12_PaintAlls.calls (k : Nat) (u : Int) (x : Int) (au : Option Addr) (av : Nat) (d : List (S44)) (y : Int) (z : Bool) (A : Bool) (a1 : Int) (A2 : Option Addr) (c2 : Nat) (l2 : List (S30)) (r : Bool) (w : World) (bR : Kd.C k44 w au d.length d) (bQ : d.length ≤ av) (cQ : Kd.C k30 w A2 l2.length l2) (cO : l2.length ≤ c2) (hG : LaidG w) (h : shutterlaw12_PaintAlls.f k u x d y z A a1 l2 = some r) :
  Calls Tryd.prog 7 #[.agg #[.int .i64 u, .int .i64 x, .slice au d.length av, .int .i64 y, .bool z, .bool A], .int .u16 a1, .slice A2 l2.length c2] w fun e w' => e = .returned (.bool r) ∧ Below w.heap.size w w' := by
 have HG := Z hG
 clear hG
 have eL := Tryd.underlying24
 have eM := Tryd.underlying30
 have eN := Tryd.underlying34
 have eO := Tryd.underlying75
 have aS := Z bR
 have aQ := Z bQ
 clear bR bQ
 have bD := Z cQ
 have cq := Z cO
 clear cQ cO
 have HB := Z (Below.refl w.heap.size w)
 have H : ((shutterlaw12_awake.f k).bind fun bB => (if bB = true then ((shutterref10_Few.f k u x d y z A).bind fun aK => (if aK = true then ((shutterlaw12_few.f k l2).bind fun ak => (shutterlaw12_PaintAlls.j0 k a1 l2 (!ak) u x d y z A)) else (shutterlaw12_PaintAlls.j0 k a1 l2 true u x d y z A))) else (none))) = some r := h
 clear h
 have cr := Z H
 clear H
 go_enter Tryd.func7, Tryd.ntmps7
 go_upto_region 1 with (first | ((with_reducible refine gate_dst (N := 3) rfl ?_); refine bx_ 3 24 #[.int .i64 u, .int .i64 x, .slice au d.length av, .int .i64 y, .bool z, .bool A] ?_; intro B hg w5 hbox hb; have b := Z (hbox); have bA := Z (ln_ hg : w.heap.size ≤ B); have eo := Z (ln_ hg : w.heap.size ≤ B); replace HB := Z (below_step bl_ hb); clear hb hbox hg))
 (try simp only [Act.put, sA, sB, sC])
 go_cut [26] (fun en wc => ∃ (kq : Nat) (a5 : Bool), en = .bool a5 ∧ Aside0 (shutterlaw12_PaintAlls.j0 kq a1 l2 a5 u x d y z A = some r) ∧ Aside0 (kq ≤ k) ∧ Aside0 (wc.heap[B]? = some (.cells #[.int .i64 u, .int .i64 x, (.slice au d.length av), .int .i64 y, .bool z, .bool A] 24 (0, 0))) ∧ Aside0 (Below w.heap.size w wc))
 case first =>
  have H := cr.out
  clear cr
  replace H := Option.bind_eq_some_iff.mp H
  obtain ⟨bB, cK, H⟩ := H
  replace H : (if bB = true then ((shutterref10_Few.f k u x d y z A).bind fun aK => (if aK = true then ((shutterlaw12_few.f k l2).bind fun ak => (shutterlaw12_PaintAlls.j0 k a1 l2 (!ak) u x d y z A)) else (shutterlaw12_PaintAlls.j0 k a1 l2 true u x d y z A))) else (none)) = some r := H
  have A6 := Z cK
  clear cK
  by_cases c7 : bB = true
  ·subst c7
   have H1 : ((shutterref10_Few.f k u x d y z A).bind fun aK => (if aK = true then ((shutterlaw12_few.f k l2).bind fun ak => (shutterlaw12_PaintAlls.j0 k a1 l2 (!ak) u x d y z A)) else (shutterlaw12_PaintAlls.j0 k a1 l2 true u x d y z A))) = some r := by rw [if_pos rfl] at H; exact H
   clear H
   have H := H1
   clear H1
   replace H := Option.bind_eq_some_iff.mp H
   obtain ⟨aK, cL, H⟩ := H
   replace H : (if aK = true then ((shutterlaw12_few.f k l2).bind fun ak => (shutterlaw12_PaintAlls.j0 k a1 l2 (!ak) u x d y z A)) else (shutterlaw12_PaintAlls.j0 k a1 l2 true u x d y z A)) = some r := H
   have A8 := Z cL
   clear cL
   by_cases c9 : aK = true
   ·subst c9
    have H1 : ((shutterlaw12_few.f k l2).bind fun ak => (shutterlaw12_PaintAlls.j0 k a1 l2 (!ak) u x d y z A)) = some r := by rw [if_pos rfl] at H; exact H
    clear H
    have H := H1
    clear H1
    replace H := Option.bind_eq_some_iff.mp H
    obtain ⟨ak, cg, H⟩ := H
    replace H : (shutterlaw12_PaintAlls.j0 k a1 l2 (!ak) u x d y z A) = some r := H
    have eb := Z cg
    clear cg
    have H' := Z H
    clear H
    go_wp2_with (first | ((with_reducible refine gate_callee (f := 14) rfl ?_); refine goesL_ (some 15) rfl rfl Tryd.func14 (by kernel_rfl) rfl #[] rfl ag_ ?_; (with_reducible refine (shutterlaw12_awake.calls k  true _ ?sideG A6.out).mono ?_); (case sideG => exact laidG_below HG.out bl_ rfl); rintro e eS ⟨rfl, hb⟩; refine ⟨_, rfl, ?_⟩; replace b := Z (kb b.out hb); replace HB := Z (below_step bl_ hb); (try clear hb); (try clear aC); (try clear hk); (try clear hi); obtain ⟨ba, bb, bc, bd, be, bf, bm, bn, bo, bp, bq, br⟩ := cells6 b.out) | (go_at_call 15; (with_reducible refine (shutterref10_Few.calls k u x _ _ d y z A true _ ?side1 ?side2 A8.out).mono ?_); (case side1 => repeat (first | exact (Kd.C_below aS.out HB.out) | (with_reducible apply pC))); (case side2 => exact aQ.out); rintro e eT ⟨rfl, hb⟩; replace b := Z (kb b.out hb); replace HB := Z (below_step bl_ hb); (try clear hb); (try clear aC); (try clear hk); (try clear hi)) | (go_at_call 23; (with_reducible refine (shutterlaw12_few.calls k _ _ l2 ak _ ?side1 ?side2 eb.out).mono ?_); (case side1 => repeat (first | exact (Kd.C_below bD.out HB.out) | (with_reducible apply pC))); (case side2 => exact cq.out); rintro e eU ⟨rfl, hb⟩; replace b := Z (kb b.out hb); replace HB := Z (below_step bl_ hb); (try clear hb); (try clear aC); (try clear hk); (try clear hi)))
    go_meet
    case rel => exact ⟨_, (!ak), (dn_), H', ⟨by first | omega | exact Nat.le_refl _⟩, ⟨vK b.out⟩, ⟨bl_⟩⟩
   ·replace c9 := Bool.eq_false_iff.mpr c9
    subst c9
    have H1 : (shutterlaw12_PaintAlls.j0 k a1 l2 true u x d y z A) = some r := by rw [if_neg (show ¬ (false = true) by decide)] at H; exact H
    clear H
    have H := H1
    clear H1
    have H' := Z H
    clear H
    go_wp2_with (first | ((with_reducible refine gate_callee (f := 14) rfl ?_); refine goesL_ (some 15) rfl rfl Tryd.func14 (by kernel_rfl) rfl #[] rfl ag_ ?_; (with_reducible refine (shutterlaw12_awake.calls k  true _ ?sideG A6.out).mono ?_); (case sideG => exact laidG_below HG.out bl_ rfl); rintro e eV ⟨rfl, hb⟩; refine ⟨_, rfl, ?_⟩; replace b := Z (kb b.out hb); replace HB := Z (below_step bl_ hb); (try clear hb); (try clear aC); (try clear hk); (try clear hi); obtain ⟨bg, bh, bi, bj, bk, bl, bs, bt, bu, bw, bx, bz⟩ := cells6 b.out) | (go_at_call 15; (with_reducible refine (shutterref10_Few.calls k u x _ _ d y z A false _ ?side1 ?side2 A8.out).mono ?_); (case side1 => repeat (first | exact (Kd.C_below aS.out HB.out) | (with_reducible apply pC))); (case side2 => exact aQ.out); rintro e eW ⟨rfl, hb⟩; replace b := Z (kb b.out hb); replace HB := Z (below_step bl_ hb); (try clear hb); (try clear aC); (try clear hk); (try clear hi)))
    go_meet
    case rel => exact ⟨_, (true), (dn_), H', ⟨by first | omega | exact Nat.le_refl _⟩, ⟨vK b.out⟩, ⟨bl_⟩⟩
  ·replace c7 := Bool.eq_false_iff.mpr c7
   subst c7
   have H1 : (none) = some r := by rw [if_neg (show ¬ (false = true) by decide)] at H; exact H
   clear H
   have H := H1
   clear H1
   exact absurd H (by simp)
 case rest =>
  clear cr
  try clear c1
  try clear c2
  try clear p2
  try clear c7
  try clear c9
  try clear el
  try clear ba
  try clear bb
  try clear bc
  try clear bd
  try clear be
  try clear bf
  try clear bg
  try clear bh
  try clear bi
  try clear bj
  try clear bk
  try clear bl
  try clear bm
  try clear bn
  try clear bo
  try clear bp
  try clear bq
  try clear br
  try clear bs
  try clear bt
  try clear bu
  try clear bw
  try clear bx
  try clear bz
  obtain ⟨kq, a5, rfl, HA, cM, b, HB⟩ := hcut
  cases kq with
  | zero => exact absurd HA.out (by simp [shutterlaw12_PaintAlls.j0])
  | succ a0 =>
   have H := HA.out
   clear HA
   simp only [shutterlaw12_PaintAlls.j0] at H
   by_cases bG : a5 = true
   ·subst bG
    have H1 : ((shutterlaw12_awake.f a0).bind fun bC => (some bC)) = some r := by rw [if_pos rfl] at H; exact H
    clear H
    have H := H1
    clear H1
    replace H := Option.bind_eq_some_iff.mp H
    obtain ⟨bC, ch, H⟩ := H
    replace H : (some bC) = some r := H
    have ec := Z ch
    clear ch
    obtain rfl := Option.some.inj H
    go_wp2_with (first | ((with_reducible refine gate_callee (f := 14) rfl ?_); refine goesL_ (some 27) rfl rfl Tryd.func14 (by kernel_rfl) rfl #[] rfl ag_ ?_; (with_reducible refine (shutterlaw12_awake.calls a0  bC _ ?sideG ec.out).mono ?_); (case sideG => exact laidG_below HG.out bl_ rfl); rintro e eX ⟨rfl, hb⟩; refine ⟨_, rfl, ?_⟩; replace b := Z (kb b.out hb); replace HB := Z (below_step bl_ hb); (try clear hb); (try clear aC); (try clear hk); (try clear hi)))
    go_ret
    exact ⟨er_, bl_⟩
   ·replace bG := Bool.eq_false_iff.mpr bG
    subst bG
    have H1 : (if (d.length : Int) = 0 then (none) else ((paint_All.f a0 u x d y z A (Int.tmod (wrap64 (a1)) (d.length : Int)) l2).bind fun ap => (shutterlaw12_PaintAlls.l0 a0 l2 (Int.tmod (wrap64 (a1)) (d.length : Int)) ap.2.2.2.2.2.2.1 0 u x d y z A ap.1 ap.2.1 ap.2.2.1 ap.2.2.2.1 ap.2.2.2.2.1 ap.2.2.2.2.2.1 ap.2.2.2.2.2.2.2.1 ap.2.2.2.2.2.2.2.2))) = some r := by rw [if_neg (show ¬ (false = true) by decide)] at H; exact H
    clear H
    have H := H1
    clear H1
    by_cases a8 : (d.length : Int) = 0
    ·rw [if_pos a8] at H
     exact absurd H (by simp)
    ·rw [if_neg a8] at H
     have cD : ((d.length : Int) == 0) = false := beq_eq_false_iff_ne.mpr a8
     have cE : ((d.length : Int) != 0) = true := bne_iff_ne.mpr a8
     have cF : ¬ (d = []) := fun h_ => a8 (by rw [h_]; rfl)
     replace H := Option.bind_eq_some_iff.mp H
     obtain ⟨⟨ae, af, T, ag, ah, ai, aj, al, an⟩, ci, H⟩ := H
     replace H : (shutterlaw12_PaintAlls.l0 a0 l2 (Int.tmod (wrap64 (a1)) (d.length : Int)) aj 0 u x d y z A ae af T ag ah ai al an) = some r := H
     have ed := Z ci
     clear ci
     have H' := Z H
     clear H
     obtain ⟨bS, bT, bU, bV, bW, bX, b4, b5, b6, b7, b8, b9⟩ := cells6 b.out
     go_wp2_with (first | ((with_reducible refine gate_callee (f := 24) rfl ?_); refine goesL_ (some 38) rfl rfl Tryd.func24 (by kernel_rfl) rfl #[.agg #[.int .i64 u, .int .i64 x, .slice au d.length av, .int .i64 y, .bool z, .bool A], .int .i64 (Int.tmod (wrap64 (a1)) (d.length : Int)), .slice A2 l2.length c2] rfl ag_ ?_; (with_reducible refine (paint_All.calls a0 u x (fun k_ => k_ < w.heap.size) _ _ d y z A (Int.tmod (wrap64 (a1)) (d.length : Int)) _ _ l2 ae af T ag ah ai aj al an _ ?side1 ?side2 ?side3 ed.out).mono ?_); (case side1 => exact Kd.V_mk aQ.out (Kd.F_below (Kd.C_F k44_heap aS.out) bl_)); (case side2 => repeat (first | exact (Kd.C_below bD.out HB.out) | (with_reducible apply pC))); (case side3 => exact cq.out); rintro e eY ⟨eP, da, rfl, bL, cP, hb⟩; refine ⟨_, rfl, ?_⟩; have aR := Z (Kd.V_lower (Kd.V_mono (ok' := fun k_ => k_ ≠ B) bL (fun k_ hk_ => Or.elim hk_ (fun hs_ => fun e_ => Nat.not_le.2 hs_ (by rw [e_]; exact bA.out)) (fun hn_ => (fb b.out k_ hn_)))) (below_size bl_)); have a4 := Z (Kd.V_lower (Kd.V_mono (ok' := fun k_ => k_ ≠ B) cP (fun k_ hk_ => Or.elim hk_ (fun hs_ => fun e_ => Nat.not_le.2 hs_ (by rw [e_]; exact bA.out)) (fun hn_ => (fb b.out k_ hn_)))) (below_size bl_)); replace b := Z (kb b.out hb); replace HB := Z (below_step bl_ hb); (try clear hb); (try clear aC); (try clear hk); (try clear hi); (try clear bL); (try clear cP); (try simp only [errW_none, errW_some])) | ((with_reducible refine gate_dst (N := 8) rfl ?_); refine bx_ 8 24 #[.int .i64 0, .int .i64 0, .slice none 0 0, .int .i64 0, .bool false, .bool false] ?_; intro D hg eZ hbox hb; replace aR := Z (ve aR.out hg hb); replace a4 := Z (ve a4.out hg hb); have j := Z (hbox); have cC := Z (ln_ hg : w.heap.size ≤ D); have ep := Z (ln_ hg : w.heap.size ≤ D); replace HB := Z (below_step bl_ hb); have ar := Z (nl b.out hg); have aH := Z (ng b.out hg); replace b := Z (kb b.out hb); clear hb hbox hg; have eB := aH.out; have eG := ar.out; obtain ⟨bY, bZ, b0, b1, b2, b3, ca, cb, cc, cd, ce, cf⟩ := cells6 j.out; obtain ⟨a6, aV, cS⟩ := Kd.V_slice aR.out; subst cS))
     go_loopg [11] a0 (fun kq em w' => ∃ (a : Int), em = .int .i64 a ∧ Aside0 (shutterlaw12_PaintAlls.l0 kq l2 (Int.tmod (wrap64 (a1)) (d.length : Int)) aj a u x d y z A ae af T ag ah ai al an = some r) ∧ Aside0 (kq ≤ a0) ∧ Aside0 (Kd.V k44 44 w' w.heap.size (fun k_ => k_ ≠ B ∧ k_ ≠ D) (.slice a6 T.length aV) T) ∧ Aside0 (Kd.V k184 184 w' w.heap.size (fun k_ => k_ ≠ B ∧ k_ ≠ D) da an) ∧ Aside0 (w'.heap[B]? = some (.cells #[.int .i64 u, .int .i64 x, (.slice au d.length av), .int .i64 y, .bool z, .bool A] 24 (0, 0))) ∧ Aside0 (w'.heap[D]? = some (.cells #[.int .i64 ae, .int .i64 af, (.slice a6 T.length aV), .int .i64 ag, .bool ah, .bool ai] 24 (0, 0))) ∧ Aside0 (Below w.heap.size w w'))
     case atStart => exact ⟨(0), (dn_), H', ⟨Nat.le_refl _⟩, ⟨by (with_reducible repeat apply pV); exact Kd.V_mono (f6V D (Kd.V_mono aR.out (fun k_ hk => (⟨hk, hk.2⟩ : _ ∧ k_ ≠ D))) (fun _ hk => hk.2)) (fun _ hk => ⟨hk.1.1, hk.1.2⟩)⟩, ⟨by (with_reducible repeat apply pV); exact Kd.V_mono (f6V D (Kd.V_mono a4.out (fun k_ hk => (⟨hk, hk.2⟩ : _ ∧ k_ ≠ D))) (fun _ hk => hk.2)) (fun _ hk => ⟨hk.1.1, hk.1.2⟩)⟩, ⟨by (with_reducible repeat apply pK); exact blk_off b.out ar.out off2_⟩, ⟨put6 j.out⟩, ⟨bl_⟩⟩
     case round =>
      clear H'
      try clear c1
      try clear c2
      try clear p2
      try clear p6
      try clear c7
      try clear c9
      try clear el
      try clear bG
      try clear a8
      try clear cD
      try clear cE
      try clear cF
      try clear c24
      try clear eR
      try clear ba
      try clear bb
      try clear bc
      try clear bd
      try clear be
      try clear bf
      try clear bg
      try clear bh
      try clear bi
      try clear bj
      try clear bk
      try clear bl
      try clear bS
      try clear bT
      try clear bU
      try clear bV
      try clear bW
      try clear bX
      try clear bY
      try clear bZ
      try clear b0
      try clear b1
      try clear b2
      try clear b3
      try clear bm
      try clear bn
      try clear bo
      try clear bp
      try clear bq
      try clear br
      try clear bs
      try clear bt
      try clear bu
      try clear bw
      try clear bx
      try clear bz
      try clear b4
      try clear b5
      try clear b6
      try clear b7
      try clear b8
      try clear b9
      try clear ca
      try clear cb
      try clear cc
      try clear cd
      try clear ce
      try clear cf
      try clear p2
      obtain ⟨a, rfl, HA, cN, HO_469002, HO_900010001, b, j, HB⟩ := hrel
      cases gk with
      | zero => exact absurd HA.out (by simp [shutterlaw12_PaintAlls.l0])
      | succ k2 =>
       have H := HA.out
       clear HA
       simp only [shutterlaw12_PaintAlls.l0] at H
       by_cases a9 : a < (l2.length : Int)
       ·rw [if_pos a9] at H
        have cG : decide (a < (l2.length : Int)) = true := decide_eq_true a9
        clear a9
        by_cases bP : 0 ≤ a
        ·rw [if_pos bP] at H
         have es : decide (0 ≤ a) = true := decide_eq_true bP
         clear bP
         replace H := Option.bind_eq_some_iff.mp H
         obtain ⟨am, cj, H⟩ := H
         replace H : (if am = 0 then (shutterlaw12_PaintAlls.l0 k2 l2 (Int.tmod (wrap64 (a1)) (d.length : Int)) aj (wrap64 (a + 1)) u x d y z A ae af T ag ah ai al an) else ((api_Code.f al an).bind fun aP => (if aP = am then ((api_Where.f al an).bind fun aF => (if aF = a then (if aj = (Int.tmod (wrap64 (a1)) (d.length : Int)) then ((shutterref10_Same.f k2 ae af T ag ah ai u x d y z A).bind fun aL => (some aL)) else (none)) else (none))) else (none)))) = some r := H
         have cJ := Z cj
         clear cj
         by_cases a7 : am = 0
         ·rw [if_pos a7] at H
          have cH : (am == 0) = true := beq_iff_eq.mpr a7
          have cI : (am != 0) = false := bne_eq_false_iff_eq.mpr a7
          clear a7
          have H' := Z H
          clear H
          try go_wp2
          have m := Z (Kd.V_drew HO_469002.out)
          have q := Z (Kd.V_drew HO_900010001.out)
          have E := Z (blk_drew b.out)
          have F := Z (blk_drew j.out)
          have G := Z (below_drew1 HB.out)
          clear HO_469002
          clear HO_900010001
          clear b
          clear j
          clear HB
          have HO_469002 := m
          have HO_900010001 := q
          have b := E
          have j := F
          have HB := G
          clear m q E F G
          have aN : 0 ≤ (a : Int) := od_
          have aO : a < (l2.length : Int) := od_
          obtain ⟨s, aG, aI, bO, I, J, L, M, O, P, Q, R, aE, aD⟩ := at_T30 bD.out a aN aO
          have ad := R
          have ac := Q
          have ab := P
          have aa := O
          have Y := M
          have X := L
          have W := J
          have U := I
          cases bO
          replace I := (HB.out.cell (bk_ w _ I)).trans I
          replace J := (HB.out.cell (bk_ w _ J)).trans J
          replace L := (HB.out.cell (bk_ w _ L)).trans L
          replace M := (HB.out.cell (bk_ w _ M)).trans M
          replace O := (HB.out.cell (bk_ w _ O)).trans O
          replace P := (HB.out.cell (bk_ w _ P)).trans P
          replace Q := (HB.out.cell (bk_ w _ Q)).trans Q
          replace R := (HB.out.cell (bk_ w _ R)).trans R
          have aB := Z aD
          have aU := Z aE
          clear aD aE
          replace aN := eq_true aN
          replace aO := eq_true aO
          refine start_ (n := 9) (S := fun w' => w'.cell? ⟨B, 0, none⟩ = some (.int .i64 u) ∧ w'.cell? ⟨B, 1, none⟩ = some (.int .i64 x) ∧ w'.cell? ⟨B, 2, none⟩ = some (.slice au d.length av) ∧ w'.cell? ⟨B, 3, none⟩ = some (.int .i64 y) ∧ w'.cell? ⟨B, 4, none⟩ = some (.bool z) ∧ w'.cell? ⟨B, 5, none⟩ = some (.bool A) ∧ w'.cell? (s.add ((a).toNat * 8)) = some (.int .i64 ((rd_T30 l2 a).f0)) ∧ w'.cell? ⟨(s.add ((a).toNat * 8)).block, (s.add ((a).toNat * 8)).off + 1, none⟩ = some (.slice aG ((rd_T30 l2 a).f1).length aI) ∧ w'.cell? ⟨(s.add ((a).toNat * 8)).block, (s.add ((a).toNat * 8)).off + 2, none⟩ = some (.bool ((rd_T30 l2 a).f2.f0)) ∧ w'.cell? ⟨(s.add ((a).toNat * 8)).block, (s.add ((a).toNat * 8)).off + 3, none⟩ = some (.bool ((rd_T30 l2 a).f2.f1)) ∧ w'.cell? ⟨(s.add ((a).toNat * 8)).block, (s.add ((a).toNat * 8)).off + 4, none⟩ = some (.int .i64 ((rd_T30 l2 a).f2.f2)) ∧ w'.cell? ⟨(s.add ((a).toNat * 8)).block, (s.add ((a).toNat * 8)).off + 5, none⟩ = some (.bool ((rd_T30 l2 a).f2.f3)) ∧ w'.cell? ⟨(s.add ((a).toNat * 8)).block, (s.add ((a).toNat * 8)).off + 6, none⟩ = some (.int .i64 ((rd_T30 l2 a).f3)) ∧ w'.cell? ⟨(s.add ((a).toNat * 8)).block, (s.add ((a).toNat * 8)).off + 7, none⟩ = some (.int .u8 ((rd_T30 l2 a).f4))) (ds := []) (bv 9 0) (by kernel_rfl) rfl rfl ⟨(blk_cell b.out 0).trans rfl, (blk_cell b.out 1).trans rfl, (blk_cell b.out 2).trans rfl, (blk_cell b.out 3).trans rfl, (blk_cell b.out 4).trans rfl, (blk_cell b.out 5).trans rfl, ((HB.out.cell (bk_ w _ U)).trans U), ((HB.out.cell (bk_ w _ W)).trans W), ((HB.out.cell (bk_ w _ X)).trans X), ((HB.out.cell (bk_ w _ Y)).trans Y), ((HB.out.cell (bk_ w _ aa)).trans aa), ((HB.out.cell (bk_ w _ ab)).trans ab), ((HB.out.cell (bk_ w _ ac)).trans ac), ((HB.out.cell (bk_ w _ ad)).trans ad)⟩ (fun hHeld => ?_); refine with_tabW shutterlaw12_PaintAlls.tab8 shutterlaw12_PaintAlls.bits8 (fun HT_ HW_ => ?_)
          generalize wr.drew = e0 at HO_469002 HO_900010001 b j HB aB I J L M O P Q R hHeld ⊢
          refine pure_ (i := 0) (N := some 48) (v := ?_) (a' := ?_) (bv 9 1) rfl rfl (any_of HT_.out (by kernel_rfl)) (fun _ _ _ h => h) (Or.inl ⟨by rfl, ?_⟩) ?_ ?_
          rotate_left
          ·intro w'
           go_simp
           with_reducible rfl
          rotate_left
          ·simp only [Act.put, sA, sB, sC, i64_w, i32_w]
           rfl
          refine pure_ (i := 1) (N := some 49) (v := ?_) (a' := ?_) (bv 9 3) rfl rfl (any_of HT_.out (by kernel_rfl)) (fun _ _ _ h => h) (Or.inl ⟨by rfl, ?_⟩) ?_ ?_
          rotate_left
          ·intro w'
           go_simp
           with_reducible rfl
          rotate_left
          ·simp only [Act.put, sA, sB, sC, i64_w, i32_w]
           rfl
          refine pure_ (i := 2) (N := some 50) (v := ?_) (a' := ?_) (bv 9 7) rfl rfl (any_of HT_.out (by kernel_rfl)) (fun _ _ _ h => h) (Or.inl ⟨by rfl, ?_⟩) ?_ ?_
          rotate_left
          ·intro w'
           go_simp
           with_reducible rfl
          rotate_left
          ·simp only [Act.put, sA, sB, sC, i64_w, i32_w]
           rfl
          refine pure_ (i := 4) (N := some 52) (v := ?_) (a' := ?_) (bv 9 23) rfl rfl (any_of HT_.out (by kernel_rfl)) (fun _ _ _ h => h) (Or.inl ⟨by rfl, ?_⟩) ?_ ?_
          rotate_left
          ·intro w'
           go_simp
           with_reducible rfl
          rotate_left
          ·simp only [Act.put, sA, sB, sC, i64_w, i32_w]
           rfl
          refine take_ (i := 3) (N := some 51) (v := ?_) (a' := ?_) (bv 9 31) rfl rfl (take_ofW HT_.out HW_.out (by kernel_rfl)) (fun _ _ _ h => h) (Or.inl ⟨by rfl, ?_⟩) hHeld ?_ ?_
          rotate_left
          ·rintro w' ⟨s0, s1, s2, s3, s4, s5, s6, s7, s8, s9, cx, cy, cz, cA⟩
           go_simp
           with_reducible rfl
          rotate_left
          ·simp only [Act.put, sA, sB, sC, i64_w, i32_w]
           rfl
          refine take_ (i := 5) (N := some 53) (v := ?_) (a' := ?_) (bv 9 63) rfl rfl (take_ofW HT_.out HW_.out (by kernel_rfl)) (fun _ _ _ h => h) (Or.inl ⟨by rfl, ?_⟩) hHeld ?_ ?_
          rotate_left
          ·rintro w' ⟨s0, s1, s2, s3, s4, s5, s6, s7, s8, s9, cx, cy, cz, cA⟩
           go_simp
           with_reducible rfl
          rotate_left
          ·simp only [Act.put, sA, sB, sC, i64_w, i32_w]
           rfl
          refine pure_ (i := 6) (N := some 54) (v := ?_) (a' := ?_) (bv 9 127) rfl rfl (any_of HT_.out (by kernel_rfl)) (fun _ _ _ h => h) (Or.inl ⟨by rfl, ?_⟩) ?_ ?_
          rotate_left
          ·intro w'
           go_simp
           with_reducible rfl
          rotate_left
          ·simp only [Act.put, sA, sB, sC, i64_w, i32_w]
           rfl
          refine one_ (i := 7) (N := some 55) (bv 9 255) rfl rfl (one_of HT_.out (by kernel_rfl)) (by decide) (fun K hK => ?_)
          refine goes_ Tryd.func17 (by kernel_rfl) rfl #[.agg #[.int .i64 ((rd_T30 l2 a).f0), .slice aG ((rd_T30 l2 a).f1).length aI, .bool ((rd_T30 l2 a).f2.f0), .bool ((rd_T30 l2 a).f2.f1), .int .i64 ((rd_T30 l2 a).f2.f2), .bool ((rd_T30 l2 a).f2.f3), .int .i64 ((rd_T30 l2 a).f3), .int .u8 ((rd_T30 l2 a).f4)], .int .i64 (d.length : Int)] (by rfl) rfl rfl ag_ ?_
          with_reducible refine (shutterref07_Wrong.calls k2 ((rd_T30 l2 a).f0) _ _ ((rd_T30 l2 a).f1) ((rd_T30 l2 a).f2.f0) ((rd_T30 l2 a).f2.f1) ((rd_T30 l2 a).f2.f2) ((rd_T30 l2 a).f2.f3) ((rd_T30 l2 a).f3) ((rd_T30 l2 a).f4) (d.length : Int) am _ ?side1 ?side2 cJ.out).mono ?_
          (case side1 => repeat (first | exact (Kd.C_below aB.out HB.out) | (with_reducible apply pC)))
          (case side2 => exact aU.out)
          rintro e e1 ⟨rfl, hb⟩
          refine ⟨_, rfl, ?_⟩
          have m := Z (vb HO_469002.out hb)
          have q := Z (vb HO_900010001.out hb)
          have E := Z (kb b.out hb)
          have F := Z (kb j.out hb)
          have G := Z (below_step bl_ hb)
          clear HO_469002
          clear HO_900010001
          clear b
          clear j
          clear HB
          have HO_469002 := m
          have HO_900010001 := q
          have b := E
          have j := F
          have HB := G
          clear m q E F G
          (try clear hb)
          (try clear aC)
          (try clear hk)
          (try clear hi)
          refine hK.out _ _ ⟨(blk_cell b.out 0).trans rfl, (blk_cell b.out 1).trans rfl, (blk_cell b.out 2).trans rfl, (blk_cell b.out 3).trans rfl, (blk_cell b.out 4).trans rfl, (blk_cell b.out 5).trans rfl, ((HB.out.cell (bk_ w _ U)).trans U), ((HB.out.cell (bk_ w _ W)).trans W), ((HB.out.cell (bk_ w _ X)).trans X), ((HB.out.cell (bk_ w _ Y)).trans Y), ((HB.out.cell (bk_ w _ aa)).trans aa), ((HB.out.cell (bk_ w _ ab)).trans ab), ((HB.out.cell (bk_ w _ ac)).trans ac), ((HB.out.cell (bk_ w _ ad)).trans ad)⟩ (fun hHeld => ?_)
          clear hK K
          refine norm_ (a' := ?_) ?_ ?_
          rotate_left
          ·show Act.put _ (some 55) _ = _
           simp only [Act.put, sA, sB, sC, i64_w, i32_w]
           rfl
          refine pure_ (i := 8) (N := some 12) (v := ?_) (a' := ?_) (bv 9 511) rfl rfl (any_of HT_.out (by kernel_rfl)) (fun _ _ _ h => h) (Or.inl ⟨by rfl, ?_⟩) ?_ ?_
          rotate_left
          ·intro w'
           go_simp
           with_reducible rfl
          rotate_left
          ·simp only [Act.put, sA, sB, sC, i64_w, i32_w]
           rfl
          refine done_ (done_of HT_.out (by kernel_rfl)) ?_
          try go_wp2
          go_roundg k2
          case measure => have := cM.out; have := cN.out; omega
          case rel => exact ⟨(wrap64 (a + 1)), (dn_), H', ⟨by have := cM.out; have := cN.out; omega⟩, ⟨vV HO_469002.out⟩, ⟨vV HO_900010001.out⟩, ⟨vK b.out⟩, ⟨vK j.out⟩, ⟨bl_⟩⟩
         ·rw [if_neg a7] at H
          have cH : (am == 0) = false := beq_eq_false_iff_ne.mpr a7
          have cI : (am != 0) = true := bne_iff_ne.mpr a7
          replace H := Option.bind_eq_some_iff.mp H
          obtain ⟨aP, ck, H⟩ := H
          replace H : (if aP = am then ((api_Where.f al an).bind fun aF => (if aF = a then (if aj = (Int.tmod (wrap64 (a1)) (d.length : Int)) then ((shutterref10_Same.f k2 ae af T ag ah ai u x d y z A).bind fun aL => (some aL)) else (none)) else (none))) else (none)) = some r := H
          have ee := Z ck
          clear ck
          by_cases bH : aP = am
          ·rw [if_pos bH] at H
           have et : (aP == am) = true := beq_iff_eq.mpr bH
           have eu : (aP != am) = false := bne_eq_false_iff_eq.mpr bH
           clear bH
           replace H := Option.bind_eq_some_iff.mp H
           obtain ⟨aF, cl, H⟩ := H
           replace H : (if aF = a then (if aj = (Int.tmod (wrap64 (a1)) (d.length : Int)) then ((shutterref10_Same.f k2 ae af T ag ah ai u x d y z A).bind fun aL => (some aL)) else (none)) else (none)) = some r := H
           have ef := Z cl
           clear cl
           by_cases bI : aF = a
           ·rw [if_pos bI] at H
            have ev : (aF == a) = true := beq_iff_eq.mpr bI
            have ew : (aF != a) = false := bne_eq_false_iff_eq.mpr bI
            clear bI
            by_cases bJ : aj = (Int.tmod (wrap64 (a1)) (d.length : Int))
            ·rw [if_pos bJ] at H
             have ex : (aj == (Int.tmod (wrap64 (a1)) (d.length : Int))) = true := beq_iff_eq.mpr bJ
             have ey : (aj != (Int.tmod (wrap64 (a1)) (d.length : Int))) = false := bne_eq_false_iff_eq.mpr bJ
             clear bJ
             replace H := Option.bind_eq_some_iff.mp H
             obtain ⟨aL, cm, H⟩ := H
             replace H : (some aL) = some r := H
             have eg := Z cm
             clear cm
             obtain rfl := Option.some.inj H
             try go_wp2
             have m := Z (Kd.V_drew HO_469002.out)
             have q := Z (Kd.V_drew HO_900010001.out)
             have E := Z (blk_drew b.out)
             have F := Z (blk_drew j.out)
             have G := Z (below_drew1 HB.out)
             clear HO_469002
             clear HO_900010001
             clear b
             clear j
             clear HB
             have HO_469002 := m
             have HO_900010001 := q
             have b := E
             have j := F
             have HB := G
             clear m q E F G
             have aN : 0 ≤ (a : Int) := od_
             have aO : a < (l2.length : Int) := od_
             obtain ⟨s, aG, aI, bO, I, J, L, M, O, P, Q, R, aE, aD⟩ := at_T30 bD.out a aN aO
             have ad := R
             have ac := Q
             have ab := P
             have aa := O
             have Y := M
             have X := L
             have W := J
             have U := I
             cases bO
             replace I := (HB.out.cell (bk_ w _ I)).trans I
             replace J := (HB.out.cell (bk_ w _ J)).trans J
             replace L := (HB.out.cell (bk_ w _ L)).trans L
             replace M := (HB.out.cell (bk_ w _ M)).trans M
             replace O := (HB.out.cell (bk_ w _ O)).trans O
             replace P := (HB.out.cell (bk_ w _ P)).trans P
             replace Q := (HB.out.cell (bk_ w _ Q)).trans Q
             replace R := (HB.out.cell (bk_ w _ R)).trans R
             have aB := Z aD
             have aU := Z aE
             clear aD aE
             replace aN := eq_true aN
             replace aO := eq_true aO
             refine start_ (n := 9) (S := fun w' => w'.cell? ⟨B, 0, none⟩ = some (.int .i64 u) ∧ w'.cell? ⟨B, 1, none⟩ = some (.int .i64 x) ∧ w'.cell? ⟨B, 2, none⟩ = some (.slice au d.length av) ∧ w'.cell? ⟨B, 3, none⟩ = some (.int .i64 y) ∧ w'.cell? ⟨B, 4, none⟩ = some (.bool z) ∧ w'.cell? ⟨B, 5, none⟩ = some (.bool A) ∧ w'.cell? (s.add ((a).toNat * 8)) = some (.int .i64 ((rd_T30 l2 a).f0)) ∧ w'.cell? ⟨(s.add ((a).toNat * 8)).block, (s.add ((a).toNat * 8)).off + 1, none⟩ = some (.slice aG ((rd_T30 l2 a).f1).length aI) ∧ w'.cell? ⟨(s.add ((a).toNat * 8)).block, (s.add ((a).toNat * 8)).off + 2, none⟩ = some (.bool ((rd_T30 l2 a).f2.f0)) ∧ w'.cell? ⟨(s.add ((a).toNat * 8)).block, (s.add ((a).toNat * 8)).off + 3, none⟩ = some (.bool ((rd_T30 l2 a).f2.f1)) ∧ w'.cell? ⟨(s.add ((a).toNat * 8)).block, (s.add ((a).toNat * 8)).off + 4, none⟩ = some (.int .i64 ((rd_T30 l2 a).f2.f2)) ∧ w'.cell? ⟨(s.add ((a).toNat * 8)).block, (s.add ((a).toNat * 8)).off + 5, none⟩ = some (.bool ((rd_T30 l2 a).f2.f3)) ∧ w'.cell? ⟨(s.add ((a).toNat * 8)).block, (s.add ((a).toNat * 8)).off + 6, none⟩ = some (.int .i64 ((rd_T30 l2 a).f3)) ∧ w'.cell? ⟨(s.add ((a).toNat * 8)).block, (s.add ((a).toNat * 8)).off + 7, none⟩ = some (.int .u8 ((rd_T30 l2 a).f4))) (ds := []) (bv 9 0) (by kernel_rfl) rfl rfl ⟨(blk_cell b.out 0).trans rfl, (blk_cell b.out 1).trans rfl, (blk_cell b.out 2).trans rfl, (blk_cell b.out 3).trans rfl, (blk_cell b.out 4).trans rfl, (blk_cell b.out 5).trans rfl, ((HB.out.cell (bk_ w _ U)).trans U), ((HB.out.cell (bk_ w _ W)).trans W), ((HB.out.cell (bk_ w _ X)).trans X), ((HB.out.cell (bk_ w _ Y)).trans Y), ((HB.out.cell (bk_ w _ aa)).trans aa), ((HB.out.cell (bk_ w _ ab)).trans ab), ((HB.out.cell (bk_ w _ ac)).trans ac), ((HB.out.cell (bk_ w _ ad)).trans ad)⟩ (fun hHeld => ?_); refine with_tabW shutterlaw12_PaintAlls.tab8 shutterlaw12_PaintAlls.bits8 (fun HT_ HW_ => ?_)
             generalize wr.drew = e2 at HO_469002 HO_900010001 b j HB aB I J L M O P Q R hHeld ⊢
             refine pure_ (i := 0) (N := some 48) (v := ?_) (a' := ?_) (bv 9 1) rfl rfl (any_of HT_.out (by kernel_rfl)) (fun _ _ _ h => h) (Or.inl ⟨by rfl, ?_⟩) ?_ ?_
             rotate_left
             ·intro w'
              go_simp
              with_reducible rfl
             rotate_left
             ·simp only [Act.put, sA, sB, sC, i64_w, i32_w]
              rfl
             refine pure_ (i := 1) (N := some 49) (v := ?_) (a' := ?_) (bv 9 3) rfl rfl (any_of HT_.out (by kernel_rfl)) (fun _ _ _ h => h) (Or.inl ⟨by rfl, ?_⟩) ?_ ?_
             rotate_left
             ·intro w'
              go_simp
              with_reducible rfl
             rotate_left
             ·simp only [Act.put, sA, sB, sC, i64_w, i32_w]
              rfl
             refine pure_ (i := 2) (N := some 50) (v := ?_) (a' := ?_) (bv 9 7) rfl rfl (any_of HT_.out (by kernel_rfl)) (fun _ _ _ h => h) (Or.inl ⟨by rfl, ?_⟩) ?_ ?_
             rotate_left
             ·intro w'
              go_simp
              with_reducible rfl
             rotate_left
             ·simp only [Act.put, sA, sB, sC, i64_w, i32_w]
              rfl
             refine pure_ (i := 4) (N := some 52) (v := ?_) (a' := ?_) (bv 9 23) rfl rfl (any_of HT_.out (by kernel_rfl)) (fun _ _ _ h => h) (Or.inl ⟨by rfl, ?_⟩) ?_ ?_
             rotate_left
             ·intro w'
              go_simp
              with_reducible rfl
             rotate_left
             ·simp only [Act.put, sA, sB, sC, i64_w, i32_w]
              rfl
             refine take_ (i := 3) (N := some 51) (v := ?_) (a' := ?_) (bv 9 31) rfl rfl (take_ofW HT_.out HW_.out (by kernel_rfl)) (fun _ _ _ h => h) (Or.inl ⟨by rfl, ?_⟩) hHeld ?_ ?_
             rotate_left
             ·rintro w' ⟨s0, s1, s2, s3, s4, s5, s6, s7, s8, s9, cx, cy, cz, cA⟩
              go_simp
              with_reducible rfl
             rotate_left
             ·simp only [Act.put, sA, sB, sC, i64_w, i32_w]
              rfl
             refine take_ (i := 5) (N := some 53) (v := ?_) (a' := ?_) (bv 9 63) rfl rfl (take_ofW HT_.out HW_.out (by kernel_rfl)) (fun _ _ _ h => h) (Or.inl ⟨by rfl, ?_⟩) hHeld ?_ ?_
             rotate_left
             ·rintro w' ⟨s0, s1, s2, s3, s4, s5, s6, s7, s8, s9, cx, cy, cz, cA⟩
              go_simp
              with_reducible rfl
             rotate_left
             ·simp only [Act.put, sA, sB, sC, i64_w, i32_w]
              rfl
             refine pure_ (i := 6) (N := some 54) (v := ?_) (a' := ?_) (bv 9 127) rfl rfl (any_of HT_.out (by kernel_rfl)) (fun _ _ _ h => h) (Or.inl ⟨by rfl, ?_⟩) ?_ ?_
             rotate_left
             ·intro w'
              go_simp
              with_reducible rfl
             rotate_left
             ·simp only [Act.put, sA, sB, sC, i64_w, i32_w]
              rfl
             refine one_ (i := 7) (N := some 55) (bv 9 255) rfl rfl (one_of HT_.out (by kernel_rfl)) (by decide) (fun K hK => ?_)
             refine goes_ Tryd.func17 (by kernel_rfl) rfl #[.agg #[.int .i64 ((rd_T30 l2 a).f0), .slice aG ((rd_T30 l2 a).f1).length aI, .bool ((rd_T30 l2 a).f2.f0), .bool ((rd_T30 l2 a).f2.f1), .int .i64 ((rd_T30 l2 a).f2.f2), .bool ((rd_T30 l2 a).f2.f3), .int .i64 ((rd_T30 l2 a).f3), .int .u8 ((rd_T30 l2 a).f4)], .int .i64 (d.length : Int)] (by rfl) rfl rfl ag_ ?_
             with_reducible refine (shutterref07_Wrong.calls k2 ((rd_T30 l2 a).f0) _ _ ((rd_T30 l2 a).f1) ((rd_T30 l2 a).f2.f0) ((rd_T30 l2 a).f2.f1) ((rd_T30 l2 a).f2.f2) ((rd_T30 l2 a).f2.f3) ((rd_T30 l2 a).f3) ((rd_T30 l2 a).f4) (d.length : Int) am _ ?side1 ?side2 cJ.out).mono ?_
             (case side1 => repeat (first | exact (Kd.C_below aB.out HB.out) | (with_reducible apply pC)))
             (case side2 => exact aU.out)
             rintro e e3 ⟨rfl, hb⟩
             refine ⟨_, rfl, ?_⟩
             have m := Z (vb HO_469002.out hb)
             have q := Z (vb HO_900010001.out hb)
             have E := Z (kb b.out hb)
             have F := Z (kb j.out hb)
             have G := Z (below_step bl_ hb)
             clear HO_469002
             clear HO_900010001
             clear b
             clear j
             clear HB
             have HO_469002 := m
             have HO_900010001 := q
             have b := E
             have j := F
             have HB := G
             clear m q E F G
             (try clear hb)
             (try clear aC)
             (try clear hk)
             (try clear hi)
             refine hK.out _ _ ⟨(blk_cell b.out 0).trans rfl, (blk_cell b.out 1).trans rfl, (blk_cell b.out 2).trans rfl, (blk_cell b.out 3).trans rfl, (blk_cell b.out 4).trans rfl, (blk_cell b.out 5).trans rfl, ((HB.out.cell (bk_ w _ U)).trans U), ((HB.out.cell (bk_ w _ W)).trans W), ((HB.out.cell (bk_ w _ X)).trans X), ((HB.out.cell (bk_ w _ Y)).trans Y), ((HB.out.cell (bk_ w _ aa)).trans aa), ((HB.out.cell (bk_ w _ ab)).trans ab), ((HB.out.cell (bk_ w _ ac)).trans ac), ((HB.out.cell (bk_ w _ ad)).trans ad)⟩ (fun hHeld => ?_)
             clear hK K
             refine norm_ (a' := ?_) ?_ ?_
             rotate_left
             ·show Act.put _ (some 55) _ = _
              simp only [Act.put, sA, sB, sC, i64_w, i32_w]
              rfl
             refine pure_ (i := 8) (N := some 12) (v := ?_) (a' := ?_) (bv 9 511) rfl rfl (any_of HT_.out (by kernel_rfl)) (fun _ _ _ h => h) (Or.inl ⟨by rfl, ?_⟩) ?_ ?_
             rotate_left
             ·intro w'
              go_simp
              with_reducible rfl
             rotate_left
             ·simp only [Act.put, sA, sB, sC, i64_w, i32_w]
              rfl
             refine done_ (done_of HT_.out (by kernel_rfl)) ?_
             obtain ⟨cp, ct, cT⟩ := Kd.V_slice HO_900010001.out
             subst cT
             try go_wp2_with (first | ((with_reducible refine gate_callee (f := 18) rfl ?_); refine goesL_ (some 59) rfl rfl Tryd.func18 (by kernel_rfl) rfl #[errW (.slice cp an.length ct) al] rfl ag_ ?_; (with_reducible refine (api_Code.calls al _ _ an aP _ ?side1 ?side2 ?sideG ee.out).mono ?_); (case sideG => exact laidG_below HG.out bl_ rfl); (case side1 => repeat (first | exact (Kd.V_reads' HO_900010001.out).2.2 | (with_reducible apply pC))); (case side2 => exact (Kd.V_reads' HO_900010001.out).2.1); rintro e e4 ⟨rfl, hb⟩; refine ⟨_, rfl, ?_⟩; replace HO_469002 := Z (vb HO_469002.out hb); replace HO_900010001 := Z (vb HO_900010001.out hb); replace b := Z (kb b.out hb); replace j := Z (kb j.out hb); replace HB := Z (below_step bl_ hb); (try clear hb); (try clear aC); (try clear hk); (try clear hi)) | (go_at_call 26; refine calls_of_args (args' := #[errW (.slice cp an.length ct) al]) (by first | rfl | rfl) ?_; (with_reducible refine (api_Where.calls al _ _ an aF _ ?side1 ?side2 ?sideG ef.out).mono ?_); (case sideG => exact laidG_below HG.out bl_ rfl); (case side1 => repeat (first | exact (Kd.V_reads' HO_900010001.out).2.2 | (with_reducible apply pC))); (case side2 => exact (Kd.V_reads' HO_900010001.out).2.1); rintro e e5 ⟨rfl, hb⟩; replace HO_469002 := Z (vb HO_469002.out hb); replace HO_900010001 := Z (vb HO_900010001.out hb); replace b := Z (kb b.out hb); replace j := Z (kb j.out hb); replace HB := Z (below_step bl_ hb); (try clear hb); (try clear aC); (try clear hk); (try clear hi); have eC := aH.out; have eH := ar.out; obtain ⟨db, dc, dd, de, df, dg, dH, dI, dJ, dK, dL, dM⟩ := cells6 j.out; obtain ⟨dh, di, dj, dk, dl, dm, dN, dO, dP, dQ, dR, dS⟩ := cells6 b.out) | (go_at_call 19; (with_reducible refine (shutterref10_Same.calls k2 ae af _ _ T ag ah ai u x _ _ d y z A aL _ ?side1 ?side2 ?side3 ?side4 eg.out).mono ?_); (case side1 => repeat (first | exact (Kd.V_reads' HO_469002.out).2.2 | (with_reducible apply pC))); (case side2 => exact (Kd.V_reads' HO_469002.out).2.1); (case side3 => repeat (first | exact (Kd.C_below aS.out HB.out) | (with_reducible apply pC))); (case side4 => exact aQ.out); rintro e e6 ⟨rfl, hb⟩; replace HO_469002 := Z (vb HO_469002.out hb); replace HO_900010001 := Z (vb HO_900010001.out hb); replace b := Z (kb b.out hb); replace j := Z (kb j.out hb); replace HB := Z (below_step bl_ hb); (try clear hb); (try clear aC); (try clear hk); (try clear hi)))
             go_ret
             exact ⟨er_, bl_⟩
            ·rw [if_neg bJ] at H
             exact absurd H (by simp)
           ·rw [if_neg bI] at H
            exact absurd H (by simp)
          ·rw [if_neg bH] at H
           exact absurd H (by simp)
        ·rw [if_neg bP] at H
         exact absurd H (by simp)
       ·rw [if_neg a9] at H
        have cG : decide (a < (l2.length : Int)) = false := decide_eq_false a9
        clear a9
        replace H := Option.bind_eq_some_iff.mp H
        obtain ⟨⟨aw, ax, aq, ay, az, aA, aW⟩, cn, H⟩ := H
        replace H : (if al.isNone = true then (if aj = aW then ((shutterref10_Same.f k2 ae af T ag ah ai aw ax aq ay az aA).bind fun aX => (some aX)) else (none)) else (none)) = some r := H
        have eh := Z cn
        clear cn
        rcases al with _ | cV
        ·have H1 : (if aj = aW then ((shutterref10_Same.f k2 ae af T ag ah ai aw ax aq ay az aA).bind fun aX => (some aX)) else (none)) = some r := by rw [if_pos (show (none : Option Er).isNone = true by rfl)] at H; exact H
         clear H
         have H := H1
         clear H1
         try simp only [errW_none, errW_some]
         by_cases bK : aj = aW
         ·rw [if_pos bK] at H
          have ez : (aj == aW) = true := beq_iff_eq.mpr bK
          have eA : (aj != aW) = false := bne_eq_false_iff_eq.mpr bK
          clear bK
          replace H := Option.bind_eq_some_iff.mp H
          obtain ⟨aX, co, H⟩ := H
          replace H : (some aX) = some r := H
          have ei := Z co
          clear co
          obtain rfl := Option.some.inj H
          have eD := ar.out
          have eI := aH.out
          obtain ⟨dn, dp, dq, dr, dt, du, dT, dU, dV, dW, dX, dY⟩ := cells6 b.out
          go_wp2_with (first | ((with_reducible refine gate_callee (f := 27) rfl ?_); refine goesL_ (some 82) rfl rfl Tryd.func27 (by kernel_rfl) rfl #[.agg #[.int .i64 u, .int .i64 x, .slice au d.length av, .int .i64 y, .bool z, .bool A], .int .i64 (Int.tmod (wrap64 (a1)) (d.length : Int)), .slice A2 l2.length c2] rfl ag_ ?_; (with_reducible refine (shutterref12_All.calls k2 u x (fun k_ => k_ < w.heap.size) _ _ d y z A (Int.tmod (wrap64 (a1)) (d.length : Int)) _ _ l2 aw ax aq ay az aA aW _ ?side1 ?side2 ?side3 eh.out).mono ?_); (case side1 => exact Kd.V_mk aQ.out (Kd.F_below (Kd.C_F k44_heap aS.out) bl_)); (case side2 => repeat (first | exact (Kd.C_below bD.out HB.out) | (with_reducible apply pC))); (case side3 => exact cq.out); rintro e e7 ⟨eQ, rfl, bL, hb⟩; refine ⟨_, rfl, ?_⟩; replace HO_469002 := Z (vb HO_469002.out hb); replace HO_900010001 := Z (vb HO_900010001.out hb); have ao := Z (Kd.V_lower (Kd.V_mono (ok' := fun k_ => k_ ≠ B ∧ k_ ≠ D) bL (fun k_ hk_ => ⟨Or.elim hk_ (fun hs_ => fun e_ => Nat.not_le.2 hs_ (by rw [e_]; exact bA.out)) (fun hn_ => (fb b.out k_ hn_)), Or.elim hk_ (fun hs_ => fun e_ => Nat.not_le.2 hs_ (by rw [e_]; exact cC.out)) (fun hn_ => (fb j.out k_ hn_))⟩)) (below_size bl_)); replace b := Z (kb b.out hb); replace j := Z (kb j.out hb); replace HB := Z (below_step bl_ hb); (try clear hb); (try clear aC); (try clear hk); (try clear hi); (try clear bL)) | ((with_reducible refine gate_dst (N := 13) rfl ?_); refine bx_ 13 24 #[.int .i64 0, .int .i64 0, .slice none 0 0, .int .i64 0, .bool false, .bool false] ?_; intro l hg e8 hbox hb; replace HO_469002 := Z (ve HO_469002.out hg hb); replace HO_900010001 := Z (ve HO_900010001.out hg hb); replace ao := Z (ve ao.out hg hb); have a3 := Z (hbox); have er := Z (ln_ hg : w.heap.size ≤ l); have eq := Z (ln_ hg : w.heap.size ≤ l); replace HB := Z (below_step bl_ hb); have aY := Z (nl b.out hg); have bE := Z (ng b.out hg); replace b := Z (kb b.out hb); have aZ := Z (nl j.out hg); have bF := Z (ng j.out hg); replace j := Z (kb j.out hb); clear hb hbox hg; have eE := bE.out; have eJ := aY.out; have eF := bF.out; have eK := aZ.out; obtain ⟨dv, dw, dx, dy, dz, dA, dZ, d0, d1, d2, d3, d4⟩ := cells6 a3.out; obtain ⟨aT, aM, cU⟩ := Kd.V_slice ao.out; subst cU; obtain ⟨dB, dC, dD, dE, dF, dG, d5, d6, d7, d8, d9, ea⟩ := cells6 j.out) | (go_at_call 19; (with_reducible refine (shutterref10_Same.calls k2 ae af _ _ T ag ah ai aw ax _ _ aq ay az aA aX _ ?side1 ?side2 ?side3 ?side4 ei.out).mono ?_); (case side1 => refine (Kd.V_reads' (e := 44) (base := w.heap.size) (ok := fun k_ => ((k_ ≠ B ∧ k_ ≠ D) ∧ k_ ≠ l)) (n := T.length) (c := aV) ?_).2.2; exact (by (with_reducible repeat apply pV); exact (Kd.V_mono (f6V l (Kd.V_mono HO_469002.out (fun k_ hk => (⟨hk, hk.2⟩ : _ ∧ k_ ≠ l))) (fun _ hk => hk.2)) (fun _ h_ => h_.1)))); (case side2 => exact (Kd.V_reads' HO_469002.out).2.1); (case side3 => refine (Kd.V_reads' (e := 44) (base := w.heap.size) (ok := fun k_ => ((k_ ≠ B ∧ k_ ≠ D) ∧ k_ ≠ l)) (n := aq.length) (c := aM) ?_).2.2; exact (by (with_reducible repeat apply pV); exact (Kd.V_mono (f6V l (Kd.V_mono ao.out (fun k_ hk => (⟨hk, hk.2⟩ : _ ∧ k_ ≠ l))) (fun _ hk => hk.2)) (fun _ h_ => h_.1)))); (case side4 => exact (Kd.V_reads' ao.out).2.1); rintro e e9 ⟨rfl, hb⟩; replace HO_469002 := Z (Kd.V_below (by (with_reducible repeat apply pV); exact (Kd.V_mono (f6V l (Kd.V_mono HO_469002.out (fun k_ hk => (⟨hk, hk.2⟩ : _ ∧ k_ ≠ l))) (fun _ hk => hk.2)) (fun _ h_ => h_.1))) hb); replace HO_900010001 := Z (Kd.V_below (by (with_reducible repeat apply pV); exact (Kd.V_mono (f6V l (Kd.V_mono HO_900010001.out (fun k_ hk => (⟨hk, hk.2⟩ : _ ∧ k_ ≠ l))) (fun _ hk => hk.2)) (fun _ h_ => h_.1))) hb); replace ao := Z (Kd.V_below (by (with_reducible repeat apply pV); exact (Kd.V_mono (f6V l (Kd.V_mono ao.out (fun k_ hk => (⟨hk, hk.2⟩ : _ ∧ k_ ≠ l))) (fun _ hk => hk.2)) (fun _ h_ => h_.1))) hb); replace b := Z (blk_below (g := B) (o := .cells #[.int .i64 u, .int .i64 x, .slice au d.length av, .int .i64 y, .bool z, .bool A] 24 (0, 0)) (by (with_reducible repeat apply pK); exact blk_off b.out aY.out off2_) hb); replace j := Z (blk_below (g := D) (o := .cells #[.int .i64 ae, .int .i64 af, .slice a6 T.length aV, .int .i64 ag, .bool ah, .bool ai] 24 (0, 0)) (by (with_reducible repeat apply pK); exact blk_off j.out aZ.out off2_) hb); replace a3 := Z (blk_below (g := l) (o := .cells #[.int .i64 aw, .int .i64 ax, .slice aT aq.length aM, .int .i64 ay, .bool az, .bool aA] 24 (0, 0)) (put6 a3.out) hb); replace HB := Z (below_step bl_ hb); (try clear hb); (try clear aC); (try clear hk); (try clear hi)))
          go_ret
          exact ⟨er_, bl_⟩
         ·rw [if_neg bK] at H
          exact absurd H (by simp)
        ·have H1 : (none) = some r := by rw [if_neg (show ¬ (some cV).isNone = true by simp)] at H; exact H
         clear H
         have H := H1
         clear H1
         try simp only [errW_none, errW_some]
         exact absurd H (by simp)

end Go.Proofs.YtgboplhcjhlabaaDoor.P
