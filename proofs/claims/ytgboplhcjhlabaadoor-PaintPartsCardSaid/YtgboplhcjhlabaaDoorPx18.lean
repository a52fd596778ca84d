/- pp.py and press2.py (wip/tools) wrote this text. -/
import Derived.Test.YtgboplhcjhlabaaDoorPx0
import Derived.Test.YtgboplhcjhlabaaDoorPxS
import Derived.Test.YtgboplhcjhlabaaDoorPx0L
import Derived.Test.YtgboplhcjhlabaaDoorPx3
import Derived.Test.YtgboplhcjhlabaaDoorPx9L
import Derived.Test.YtgboplhcjhlabaaDoorPx10
import Derived.Test.YtgboplhcjhlabaaDoorPx12
import Derived.Test.YtgboplhcjhlabaaDoorPx17
namespace Go.Proofs.YtgboplhcjhlabaaDoor.P
open Go.RowKit Go.Proofs.YtgboplhcjhlabaaDoorW.PrintWords Go.Proofs.YtgboplhcjhlabaaDoorW.PrintLast Go.Proofs.YtgboplhcjhlabaaDoorW.PrintMore
attribute [local go_sem] max2_int min2_int max_two min_two max_three min_three max_four min_four
attribute [local go_sem] Instr.field asAgg
set_option linter.unusedVariables false
set_option linter.unusedSimpArgs false

/-! ### shutterlaw12_PaintParts: function 5 -/
def shutterlaw12_PaintParts.j0 : Nat → Int → List (S30) → Int → Bool → Int → Int → List (S44) → Int → Bool → Bool → Option (Bool)
 | 0, _, _, _, _, _, _, _, _, _, _ => none
 | k + 1, p, l, m, q, e, g, d, h, i, j => if q = true then ((shutterlaw12_awake.f k).bind fun n => (some n)) else (if (d.length : Int) = 0 then (none) else (if (wrap64 ((l.length : Int) + 1)) = 0 then (none) else ((paint_All.f k e g d h i j (Int.tmod (wrap64 (p)) (d.length : Int)) l).bind fun a => (if a.2.2.2.2.2.2.2.1.isNone = true then (if 0 ≤ (Int.tmod (wrap64 (m)) (wrap64 ((l.length : Int) + 1))) then (if (Int.tmod (wrap64 (m)) (wrap64 ((l.length : Int) + 1))) ≤ (l.length : Int) then ((paint_All.f k e g d h i j (Int.tmod (wrap64 (p)) (d.length : Int)) (l.take ((Int.tmod (wrap64 (m)) (wrap64 ((l.length : Int) + 1))) : Int).toNat)).bind fun b => ((paint_All.f k b.1 b.2.1 b.2.2.1 b.2.2.2.1 b.2.2.2.2.1 b.2.2.2.2.2.1 b.2.2.2.2.2.2.1 (l.drop ((Int.tmod (wrap64 (m)) (wrap64 ((l.length : Int) + 1))) : Int).toNat)).bind fun c => (if b.2.2.2.2.2.2.2.1.isNone = true then (if c.2.2.2.2.2.2.2.1.isNone = true then (if c.2.2.2.2.2.2.1 = a.2.2.2.2.2.2.1 then ((shutterref10_Same.f k c.1 c.2.1 c.2.2.1 c.2.2.2.1 c.2.2.2.2.1 c.2.2.2.2.2.1 a.1 a.2.1 a.2.2.1 a.2.2.2.1 a.2.2.2.2.1 a.2.2.2.2.2.1).bind fun o => (some o)) else (none)) else (none)) else (none)))) else (none)) else (none)) else (some true)))))
def shutterlaw12_PaintParts.f (k : Nat) (a : Int) (b : Int) (g : List (S44)) (c : Int) (d : Bool) (e : Bool) (a1 : Int) (l2 : List (S30)) (l : Int) : Option (Bool) := (shutterlaw12_awake.f k).bind fun h => (if h = true then ((shutterref10_Few.f k a b g c d e).bind fun i => (if i = true then ((shutterlaw12_few.f k l2).bind fun j => (shutterlaw12_PaintParts.j0 k a1 l2 l (!j) a b g c d e)) else (shutterlaw12_PaintParts.j0 k a1 l2 l true a b g c d e))) else (none))
theorem shutterlaw12_PaintParts.mono_l : ∀ k, (∀ b c d e f g i j l m, LeO (shutterlaw12_PaintParts.j0 k b c d e f g i j l m) (shutterlaw12_PaintParts.j0 (k + 1) b c d e f g i j l m))
 | 0 => fun _ _ _ _ _ _ _ _ _ _ r h => by simp [shutterlaw12_PaintParts.j0] at h
 | k + 1 => by
  have a := shutterlaw12_PaintParts.mono_l k
  ·intro b c d e f g i j l m
   unfold shutterlaw12_PaintParts.j0
   repeat' first
   | (with_reducible exact a _ _ _ _ _ _ _ _ _ _)
   | (with_reducible exact paint_All.mono _ _ _ _ _ _ _ _ _)
   | (with_reducible exact shutterlaw12_awake.mono _)
   | (with_reducible exact shutterlaw12_few.mono _ _)
   | (with_reducible exact shutterref10_Few.mono _ _ _ _ _ _ _)
   | (with_reducible exact shutterref10_Same.mono _ _ _ _ _ _ _ _ _ _ _ _ _)
   | (with_reducible exact LeO.refl _)
   | (with_reducible exact LeO.none _)
   | (with_reducible refine LeO.ite ?_ ?_)
   | (with_reducible refine LeO.bind ?_ (fun _ => ?_))
   | exact a _ _ _ _ _ _ _ _ _ _
   | exact paint_All.mono _ _ _ _ _ _ _ _ _
   | exact shutterlaw12_awake.mono _
   | exact shutterlaw12_few.mono _ _
   | exact shutterref10_Few.mono _ _ _ _ _ _ _
   | exact shutterref10_Same.mono _ _ _ _ _ _ _ _ _ _ _ _ _
   | exact LeO.none _
   | refine LeO.ite ?_ ?_
   | refine LeO.bind ?_ (fun _ => ?_)
theorem shutterlaw12_PaintParts.mono : ∀ a0 a1 b c a4 d e g h k, LeO (shutterlaw12_PaintParts.f k a0 a1 b c a4 d e g h) (shutterlaw12_PaintParts.f (k + 1) a0 a1 b c a4 d e g h) := by
 intro a0 a1 b c a4 d e g h k
 have a := shutterlaw12_PaintParts.mono_l k
 unfold shutterlaw12_PaintParts.f
 repeat' first
   | (with_reducible exact a _ _ _ _ _ _ _ _ _ _)
   | (with_reducible exact paint_All.mono _ _ _ _ _ _ _ _ _)
   | (with_reducible exact shutterlaw12_awake.mono _)
   | (with_reducible exact shutterlaw12_few.mono _ _)
   | (with_reducible exact shutterref10_Few.mono _ _ _ _ _ _ _)
   | (with_reducible exact shutterref10_Same.mono _ _ _ _ _ _ _ _ _ _ _ _ _)
   | (with_reducible exact LeO.refl _)
   | (with_reducible exact LeO.none _)
   | (with_reducible refine LeO.ite ?_ ?_)
   | (with_reducible refine LeO.bind ?_ (fun _ => ?_))
   | exact a _ _ _ _ _ _ _ _ _ _
   | exact paint_All.mono _ _ _ _ _ _ _ _ _
   | exact shutterlaw12_awake.mono _
   | exact shutterlaw12_few.mono _ _
   | exact shutterref10_Few.mono _ _ _ _ _ _ _
   | exact shutterref10_Same.mono _ _ _ _ _ _ _ _ _ _ _ _ _
   | exact LeO.none _
   | refine LeO.ite ?_ ?_
   | refine LeO.bind ?_ (fun _ => ?_)
def shutterlaw12_PaintParts.T8 : Bool × List (List Nat × List Nat) := (true, [([], []), ([], []), ([], []), ([], []), ([2, 3], [2, 3]), ([0, 1, 4], [0, 1, 4]), ([5], [5]), ([6], [6]), ([6], [6]), ([6], [6]), ([], []), ([10, 7, 5, 0, 1, 2, 3, 4, 5, 6, 7, 10], [7, 10]), ([8, 11, 0, 1, 2, 3, 4, 5, 6, 7, 8, 10, 11], [8]), ([9, 12, 0, 1, 2, 3, 4, 5, 6, 7, 8, 9, 10, 11, 12], [9])])
def shutterlaw12_PaintParts.B8 : List Nat := [0, 0, 0, 0, 12, 31, 63, 127, 127, 127, 0, 1279, 3583, 8191]
theorem shutterlaw12_PaintParts.tab8 : rtab .any (opsOf Tryd.f5 8) = shutterlaw12_PaintParts.T8 := by kernel_rfl
theorem shutterlaw12_PaintParts.bits8 : waitsOk shutterlaw12_PaintParts.T8.2 shutterlaw12_PaintParts.B8 = true := by kernel_rfl
def shutterlaw12_PaintParts.T9 : Bool × List (List Nat × List Nat) := (true, [([], []), ([], []), ([], []), ([], []), ([2, 3], [2, 3]), ([0, 1, 4], [0, 1, 4]), ([5], [5]), ([6], [6]), ([6], [6]), ([6], [6]), ([], []), ([10, 7, 5, 0, 1, 2, 3, 4, 5, 6, 7, 10], [7, 10]), ([8, 11, 0, 1, 2, 3, 4, 5, 6, 7, 8, 10, 11], [8]), ([9, 12, 0, 1, 2, 3, 4, 5, 6, 7, 8, 9, 10, 11, 12], [9])])
def shutterlaw12_PaintParts.B9 : List Nat := [0, 0, 0, 0, 12, 31, 63, 127, 127, 127, 0, 1279, 3583, 8191]
theorem shutterlaw12_PaintParts.tab9 : rtab .any (opsOf Tryd.f5 9) = shutterlaw12_PaintParts.T9 := by kernel_rfl
theorem shutterlaw12_PaintParts.bits9 : waitsOk shutterlaw12_PaintParts.T9.2 shutterlaw12_PaintParts.B9 = true := by kernel_rfl
set_option maxHeartbeats 8000000 in
set_option maxRecDepth 100000 in
theorem shutterlaw12_PaintParts.calls (k : Nat) (M : Int) (O : Int) (aJ : Option Addr) (aK : Nat) (D : List (S44)) (Q : Int) (R : Bool) (T : Bool) (a1 : Int) (A2 : Option Addr) (c2 : Nat) (l2 : List (S30)) (a3 : Int) (r : Bool) (w : World) (cq : Kd.C k44 w aJ D.length D) (cn : D.length ≤ aK) (dw : Kd.C k30 w A2 l2.length l2) (dv : l2.length ≤ c2) (hG : LaidG w) (h : shutterlaw12_PaintParts.f k M O D Q R T a1 l2 a3 = some r) :
  Calls Tryd.prog 5 #[.agg #[.int .i64 M, .int .i64 O, .slice aJ D.length aK, .int .i64 Q, .bool R, .bool T], .int .u16 a1, .slice A2 l2.length c2, .int .u8 a3] w fun e w' => e = .returned (.bool r) ∧ Below w.heap.size w w' := by
 have HG := Z hG
 clear hG
 have g2 := Tryd.underlying24
 have g3 := Tryd.underlying34
 have g4 := Tryd.underlying75
 have bm := Z cq
 have bl := Z cn
 clear cq cn
 have bW := Z dw
 have bV := Z dv
 clear dw dv
 have HB := Z (Below.refl w.heap.size w)
 have H : ((shutterlaw12_awake.f k).bind fun bR => (if bR = true then ((shutterref10_Few.f k M O D Q R T).bind fun bh => (if bh = true then ((shutterlaw12_few.f k l2).bind fun aY => (shutterlaw12_PaintParts.j0 k a1 l2 a3 (!aY) M O D Q R T)) else (shutterlaw12_PaintParts.j0 k a1 l2 a3 true M O D Q R T))) else (none))) = some r := h
 clear h
 have cZ := Z H
 clear H
 go_enter Tryd.func5, Tryd.ntmps5
 go_upto_region 1 with (first | ((with_reducible refine gate_dst (N := 4) rfl ?_); refine bx_ 4 24 #[.int .i64 M, .int .i64 O, .slice aJ D.length aK, .int .i64 Q, .bool R, .bool T] ?_; intro x hg w6 hbox hb; have b := Z (hbox); have a6 := Z (ln_ hg : w.heap.size ≤ x); have fY := Z (ln_ hg : w.heap.size ≤ x); replace HB := Z (below_step bl_ hb); clear hb hbox hg))
 (try simp only [Act.put, sA, sB, sC])
 go_cut [31] (fun fR wc => ∃ (kq : Nat) (bA : Bool), fR = .bool bA ∧ Aside0 (shutterlaw12_PaintParts.j0 kq a1 l2 a3 bA M O D Q R T = some r) ∧ Aside0 (kq ≤ k) ∧ Aside0 (wc.heap[x]? = some (.cells #[.int .i64 M, .int .i64 O, (.slice aJ D.length aK), .int .i64 Q, .bool R, .bool T] 24 (0, 0))) ∧ Aside0 (Below w.heap.size w wc))
 case first =>
  have H := cZ.out
  clear cZ
  replace H := Option.bind_eq_some_iff.mp H
  obtain ⟨bR, dt, H⟩ := H
  replace H : (if bR = true then ((shutterref10_Few.f k M O D Q R T).bind fun bh => (if bh = true then ((shutterlaw12_few.f k l2).bind fun aY => (shutterlaw12_PaintParts.j0 k a1 l2 a3 (!aY) M O D Q R T)) else (shutterlaw12_PaintParts.j0 k a1 l2 a3 true M O D Q R T))) else (none)) = some r := H
  have A7 := Z dt
  clear dt
  by_cases c8 : bR = true
  ·subst c8
   have H1 : ((shutterref10_Few.f k M O D Q R T).bind fun bh => (if bh = true then ((shutterlaw12_few.f k l2).bind fun aY => (shutterlaw12_PaintParts.j0 k a1 l2 a3 (!aY) M O D Q R T)) else (shutterlaw12_PaintParts.j0 k a1 l2 a3 true M O D Q R T))) = some r := by rw [if_pos rfl] at H; exact H
   clear H
   have H := H1
   clear H1
   replace H := Option.bind_eq_some_iff.mp H
   obtain ⟨bh, du, H⟩ := H
   replace H : (if bh = true then ((shutterlaw12_few.f k l2).bind fun aY => (shutterlaw12_PaintParts.j0 k a1 l2 a3 (!aY) M O D Q R T)) else (shutterlaw12_PaintParts.j0 k a1 l2 a3 true M O D Q R T)) = some r := H
   have A9 := Z du
   clear du
   by_cases c10 : bh = true
   ·subst c10
    have H1 : ((shutterlaw12_few.f k l2).bind fun aY => (shutterlaw12_PaintParts.j0 k a1 l2 a3 (!aY) M O D Q R T)) = some r := by rw [if_pos rfl] at H; exact H
    clear H
    have H := H1
    clear H1
    replace H := Option.bind_eq_some_iff.mp H
    obtain ⟨aY, cR, H⟩ := H
    replace H : (shutterlaw12_PaintParts.j0 k a1 l2 a3 (!aY) M O D Q R T) = some r := H
    have fM := Z cR
    clear cR
    have H' := Z H
    clear H
    go_wp2_with (first | ((with_reducible refine gate_callee (f := 14) rfl ?_); refine goesL_ (some 20) rfl rfl Tryd.func14 (by kernel_rfl) rfl #[] rfl ag_ ?_; (with_reducible refine (shutterlaw12_awake.calls k  true _ ?sideG A7.out).mono ?_); (case sideG => exact laidG_below HG.out bl_ rfl); rintro e hf ⟨rfl, hb⟩; refine ⟨_, rfl, ?_⟩; replace b := Z (kb b.out hb); replace HB := Z (below_step bl_ hb); (try clear hb); (try clear bc); (try clear hk); (try clear hi); obtain ⟨ct, cu, cv, cw, cx, cy, cF, cG, cH, cI, cJ, cK⟩ := cells6 b.out) | (go_at_call 15; (with_reducible refine (shutterref10_Few.calls k M O _ _ D Q R T true _ ?side1 ?side2 A9.out).mono ?_); (case side1 => repeat (first | exact (Kd.C_below bm.out HB.out) | (with_reducible apply pC))); (case side2 => exact bl.out); rintro e hh ⟨rfl, hb⟩; replace b := Z (kb b.out hb); replace HB := Z (below_step bl_ hb); (try clear hb); (try clear bc); (try clear hk); (try clear hi)) | (go_at_call 23; (with_reducible refine (shutterlaw12_few.calls k _ _ l2 aY _ ?side1 ?side2 fM.out).mono ?_); (case side1 => repeat (first | exact (Kd.C_below bW.out HB.out) | (with_reducible apply pC))); (case side2 => exact bV.out); rintro e hj ⟨rfl, hb⟩; replace b := Z (kb b.out hb); replace HB := Z (below_step bl_ hb); (try clear hb); (try clear bc); (try clear hk); (try clear hi)))
    go_meet
    case rel => exact ⟨_, (!aY), (dn_), H', ⟨by first | omega | exact Nat.le_refl _⟩, ⟨vK b.out⟩, ⟨bl_⟩⟩
   ·replace c10 := Bool.eq_false_iff.mpr c10
    subst c10
    have H1 : (shutterlaw12_PaintParts.j0 k a1 l2 a3 true M O D Q R T) = some r := by rw [if_neg (show ¬ (false = true) by decide)] at H; exact H
    clear H
    have H := H1
    clear H1
    have H' := Z H
    clear H
    go_wp2_with (first | ((with_reducible refine gate_callee (f := 14) rfl ?_); refine goesL_ (some 20) rfl rfl Tryd.func14 (by kernel_rfl) rfl #[] rfl ag_ ?_; (with_reducible refine (shutterlaw12_awake.calls k  true _ ?sideG A7.out).mono ?_); (case sideG => exact laidG_below HG.out bl_ rfl); rintro e hl ⟨rfl, hb⟩; refine ⟨_, rfl, ?_⟩; replace b := Z (kb b.out hb); replace HB := Z (below_step bl_ hb); (try clear hb); (try clear bc); (try clear hk); (try clear hi); obtain ⟨cz, cA, cB, cC, cD, cE, cL, cM, cN, cO, cP, cQ⟩ := cells6 b.out) | (go_at_call 15; (with_reducible refine (shutterref10_Few.calls k M O _ _ D Q R T false _ ?side1 ?side2 A9.out).mono ?_); (case side1 => repeat (first | exact (Kd.C_below bm.out HB.out) | (with_reducible apply pC))); (case side2 => exact bl.out); rintro e hm ⟨rfl, hb⟩; replace b := Z (kb b.out hb); replace HB := Z (below_step bl_ hb); (try clear hb); (try clear bc); (try clear hk); (try clear hi)))
    go_meet
    case rel => exact ⟨_, (true), (dn_), H', ⟨by first | omega | exact Nat.le_refl _⟩, ⟨vK b.out⟩, ⟨bl_⟩⟩
  ·replace c8 := Bool.eq_false_iff.mpr c8
   subst c8
   have H1 : (none) = some r := by rw [if_neg (show ¬ (false = true) by decide)] at H; exact H
   clear H
   have H := H1
   clear H1
   exact absurd H (by simp)
 case rest =>
  clear cZ
  try clear c1
  try clear c2
  try clear p2
  try clear c5
  try clear c8
  try clear c10
  try clear he
  try clear ct
  try clear cu
  try clear cv
  try clear cw
  try clear cx
  try clear cy
  try clear cz
  try clear cA
  try clear cB
  try clear cC
  try clear cD
  try clear cE
  try clear cF
  try clear cG
  try clear cH
  try clear cI
  try clear cJ
  try clear cK
  try clear cL
  try clear cM
  try clear cN
  try clear cO
  try clear cP
  try clear cQ
  obtain ⟨kq, bA, rfl, HA, hc, b, HB⟩ := hcut
  cases kq with
  | zero => exact absurd HA.out (by simp [shutterlaw12_PaintParts.j0])
  | succ aB =>
   have H := HA.out
   clear HA
   simp only [shutterlaw12_PaintParts.j0] at H
   by_cases cl : bA = true
   ·subst cl
    have H1 : ((shutterlaw12_awake.f aB).bind fun bS => (some bS)) = some r := by rw [if_pos rfl] at H; exact H
    clear H
    have H := H1
    clear H1
    replace H := Option.bind_eq_some_iff.mp H
    obtain ⟨bS, cS, H⟩ := H
    replace H : (some bS) = some r := H
    have fN := Z cS
    clear cS
    obtain rfl := Option.some.inj H
    go_wp2_with (first | ((with_reducible refine gate_callee (f := 14) rfl ?_); refine goesL_ (some 32) rfl rfl Tryd.func14 (by kernel_rfl) rfl #[] rfl ag_ ?_; (with_reducible refine (shutterlaw12_awake.calls aB  bS _ ?sideG fN.out).mono ?_); (case sideG => exact laidG_below HG.out bl_ rfl); rintro e hn ⟨rfl, hb⟩; refine ⟨_, rfl, ?_⟩; replace b := Z (kb b.out hb); replace HB := Z (below_step bl_ hb); (try clear hb); (try clear bc); (try clear hk); (try clear hi)))
    go_ret
    exact ⟨er_, bl_⟩
   ·replace cl := Bool.eq_false_iff.mpr cl
    subst cl
    have H1 : (if (D.length : Int) = 0 then (none) else (if (wrap64 ((l2.length : Int) + 1)) = 0 then (none) else ((paint_All.f aB M O D Q R T (Int.tmod (wrap64 (a1)) (D.length : Int)) l2).bind fun a8 => (if a8.2.2.2.2.2.2.2.1.isNone = true then (if 0 ≤ (Int.tmod (wrap64 (a3)) (wrap64 ((l2.length : Int) + 1))) then (if (Int.tmod (wrap64 (a3)) (wrap64 ((l2.length : Int) + 1))) ≤ (l2.length : Int) then ((paint_All.f aB M O D Q R T (Int.tmod (wrap64 (a1)) (D.length : Int)) (l2.take ((Int.tmod (wrap64 (a3)) (wrap64 ((l2.length : Int) + 1))) : Int).toNat)).bind fun G => ((paint_All.f aB G.1 G.2.1 G.2.2.1 G.2.2.2.1 G.2.2.2.2.1 G.2.2.2.2.2.1 G.2.2.2.2.2.2.1 (l2.drop ((Int.tmod (wrap64 (a3)) (wrap64 ((l2.length : Int) + 1))) : Int).toNat)).bind fun z => (if G.2.2.2.2.2.2.2.1.isNone = true then (if z.2.2.2.2.2.2.2.1.isNone = true then (if z.2.2.2.2.2.2.1 = a8.2.2.2.2.2.2.1 then ((shutterref10_Same.f aB z.1 z.2.1 z.2.2.1 z.2.2.2.1 z.2.2.2.2.1 z.2.2.2.2.2.1 a8.1 a8.2.1 a8.2.2.1 a8.2.2.2.1 a8.2.2.2.2.1 a8.2.2.2.2.2.1).bind fun aF => (some aF)) else (none)) else (none)) else (none)))) else (none)) else (none)) else (some true))))) = some r := by rw [if_neg (show ¬ (false = true) by decide)] at H; exact H
    clear H
    have H := H1
    clear H1
    by_cases bX : (D.length : Int) = 0
    ·rw [if_pos bX] at H
     exact absurd H (by simp)
    ·rw [if_neg bX] at H
     have fZ : ((D.length : Int) == 0) = false := beq_eq_false_iff_ne.mpr bX
     have ga : ((D.length : Int) != 0) = true := bne_iff_ne.mpr bX
     have gb : ¬ (D = []) := fun h_ => bX (by rw [h_]; rfl)
     by_cases cm : (wrap64 ((l2.length : Int) + 1)) = 0
     ·rw [if_pos cm] at H
      exact absurd H (by simp)
     ·rw [if_neg cm] at H
      have gc : ((wrap64 ((l2.length : Int) + 1)) == 0) = false := beq_eq_false_iff_ne.mpr cm
      have gd : ((wrap64 ((l2.length : Int) + 1)) != 0) = true := bne_iff_ne.mpr cm
      replace H := Option.bind_eq_some_iff.mp H
      obtain ⟨⟨an, ao, W, ap, aq, ar, aW, dm, bi⟩, cU, H⟩ := H
      replace H : (if dm.isNone = true then (if 0 ≤ (Int.tmod (wrap64 (a3)) (wrap64 ((l2.length : Int) + 1))) then (if (Int.tmod (wrap64 (a3)) (wrap64 ((l2.length : Int) + 1))) ≤ (l2.length : Int) then ((paint_All.f aB M O D Q R T (Int.tmod (wrap64 (a1)) (D.length : Int)) (l2.take ((Int.tmod (wrap64 (a3)) (wrap64 ((l2.length : Int) + 1))) : Int).toNat)).bind fun G => ((paint_All.f aB G.1 G.2.1 G.2.2.1 G.2.2.2.1 G.2.2.2.2.1 G.2.2.2.2.2.1 G.2.2.2.2.2.2.1 (l2.drop ((Int.tmod (wrap64 (a3)) (wrap64 ((l2.length : Int) + 1))) : Int).toNat)).bind fun z => (if G.2.2.2.2.2.2.2.1.isNone = true then (if z.2.2.2.2.2.2.2.1.isNone = true then (if z.2.2.2.2.2.2.1 = aW then ((shutterref10_Same.f aB z.1 z.2.1 z.2.2.1 z.2.2.2.1 z.2.2.2.2.1 z.2.2.2.2.2.1 an ao W ap aq ar).bind fun aF => (some aF)) else (none)) else (none)) else (none)))) else (none)) else (none)) else (some true)) = some r := H
      have cT := Z cU
      clear cU
      rcases dm with _ | dj
      ·have H1 : (if 0 ≤ (Int.tmod (wrap64 (a3)) (wrap64 ((l2.length : Int) + 1))) then (if (Int.tmod (wrap64 (a3)) (wrap64 ((l2.length : Int) + 1))) ≤ (l2.length : Int) then ((paint_All.f aB M O D Q R T (Int.tmod (wrap64 (a1)) (D.length : Int)) (l2.take ((Int.tmod (wrap64 (a3)) (wrap64 ((l2.length : Int) + 1))) : Int).toNat)).bind fun G => ((paint_All.f aB G.1 G.2.1 G.2.2.1 G.2.2.2.1 G.2.2.2.2.1 G.2.2.2.2.2.1 G.2.2.2.2.2.2.1 (l2.drop ((Int.tmod (wrap64 (a3)) (wrap64 ((l2.length : Int) + 1))) : Int).toNat)).bind fun z => (if G.2.2.2.2.2.2.2.1.isNone = true then (if z.2.2.2.2.2.2.2.1.isNone = true then (if z.2.2.2.2.2.2.1 = aW then ((shutterref10_Same.f aB z.1 z.2.1 z.2.2.1 z.2.2.2.1 z.2.2.2.2.1 z.2.2.2.2.2.1 an ao W ap aq ar).bind fun aF => (some aF)) else (none)) else (none)) else (none)))) else (none)) else (none)) = some r := by rw [if_pos (show (none : Option Er).isNone = true by rfl)] at H; exact H
       clear H
       have H := H1
       clear H1
       try simp only [errW_none, errW_some]
       obtain ⟨am, bz⟩ : ∃ j_ : Int, (Int.tmod (wrap64 (a3)) (wrap64 ((l2.length : Int) + 1))) = j_ := ⟨_, rfl⟩
       replace H : (if 0 ≤ (am) then (if (am) ≤ (l2.length : Int) then ((paint_All.f aB M O D Q R T (Int.tmod (wrap64 (a1)) (D.length : Int)) (l2.take ((am) : Int).toNat)).bind fun G => ((paint_All.f aB G.1 G.2.1 G.2.2.1 G.2.2.2.1 G.2.2.2.2.1 G.2.2.2.2.2.1 G.2.2.2.2.2.2.1 (l2.drop ((am) : Int).toNat)).bind fun z => (if G.2.2.2.2.2.2.2.1.isNone = true then (if z.2.2.2.2.2.2.2.1.isNone = true then (if z.2.2.2.2.2.2.1 = aW then ((shutterref10_Same.f aB z.1 z.2.1 z.2.2.1 z.2.2.2.1 z.2.2.2.2.1 z.2.2.2.2.2.1 an ao W ap aq ar).bind fun aF => (some aF)) else (none)) else (none)) else (none)))) else (none)) else (none)) = some r := by first | (rw [bz] at H; exact H) | (simp only [bz] at H ⊢; exact H)
       (try rw [bz] at cT)
       by_cases bY : 0 ≤ (am)
       ·rw [if_pos bY] at H
        have ge := eq_true bY
        have gf : decide (0 ≤ (am)) = true := decide_eq_true bY
        clear bY
        by_cases bZ : (am) ≤ (l2.length : Int)
        ·rw [if_pos bZ] at H
         have gg := eq_true bZ
         have gh : decide ((am) ≤ (l2.length : Int)) = true := decide_eq_true bZ
         clear bZ
         obtain ⟨bp, br⟩ : ∃ y_ : List (S30), y_ = (l2.take ((am) : Int).toNat) := ⟨_, rfl⟩
         replace H : ((paint_All.f aB M O D Q R T (Int.tmod (wrap64 (a1)) (D.length : Int)) bp).bind fun G => ((paint_All.f aB G.1 G.2.1 G.2.2.1 G.2.2.2.1 G.2.2.2.2.1 G.2.2.2.2.2.1 G.2.2.2.2.2.2.1 (l2.drop ((am) : Int).toNat)).bind fun z => (if G.2.2.2.2.2.2.2.1.isNone = true then (if z.2.2.2.2.2.2.2.1.isNone = true then (if z.2.2.2.2.2.2.1 = aW then ((shutterref10_Same.f aB z.1 z.2.1 z.2.2.1 z.2.2.2.1 z.2.2.2.2.1 z.2.2.2.2.2.1 an ao W ap aq ar).bind fun aF => (some aF)) else (none)) else (none)) else (none)))) = some r := by first | (rw [br]; with_reducible exact H) | (have bB := (Option.bind_some _ _).symm.trans H; rw [br]; with_reducible exact bB) | (have bB := (Option.bind_some _ _).symm.trans H; with_reducible exact bB) | with_reducible exact H | (rw [br]; exact H) | exact H
         have cj := Z br
         clear br
         replace H := Option.bind_eq_some_iff.mp H
         obtain ⟨⟨ae, af, Y, ag, ah, ai, a4, bT, bn⟩, cV, H⟩ := H
         replace H : ((paint_All.f aB ae af Y ag ah ai a4 (l2.drop ((am) : Int).toNat)).bind fun z => (if bT.isNone = true then (if z.2.2.2.2.2.2.2.1.isNone = true then (if z.2.2.2.2.2.2.1 = aW then ((shutterref10_Same.f aB z.1 z.2.1 z.2.2.1 z.2.2.2.1 z.2.2.2.2.1 z.2.2.2.2.2.1 an ao W ap aq ar).bind fun aF => (some aF)) else (none)) else (none)) else (none))) = some r := H
         have dq := Z cV
         clear cV
         have gi := eq_true (od_ : 0 ≤ (am))
         have gj := eq_true (od_ : (am) ≤ (l2.length : Int))
         obtain ⟨ba, bs⟩ : ∃ y_ : List (S30), y_ = (l2.drop ((am) : Int).toNat) := ⟨_, rfl⟩
         replace H : ((paint_All.f aB ae af Y ag ah ai a4 ba).bind fun z => (if bT.isNone = true then (if z.2.2.2.2.2.2.2.1.isNone = true then (if z.2.2.2.2.2.2.1 = aW then ((shutterref10_Same.f aB z.1 z.2.1 z.2.2.1 z.2.2.2.1 z.2.2.2.2.1 z.2.2.2.2.2.1 an ao W ap aq ar).bind fun aF => (some aF)) else (none)) else (none)) else (none))) = some r := by first | (rw [bs]; with_reducible exact H) | (have bB := (Option.bind_some _ _).symm.trans H; rw [bs]; with_reducible exact bB) | (have bB := (Option.bind_some _ _).symm.trans H; with_reducible exact bB) | with_reducible exact H | (rw [bs]; exact H) | exact H
         have ck := Z bs
         clear bs
         replace H := Option.bind_eq_some_iff.mp H
         obtain ⟨⟨aL, aM, aN, aO, aP, aQ, a5, cg, bU⟩, cW, H⟩ := H
         replace H : (if bT.isNone = true then (if cg.isNone = true then (if a5 = aW then ((shutterref10_Same.f aB aL aM aN aO aP aQ an ao W ap aq ar).bind fun aF => (some aF)) else (none)) else (none)) else (none)) = some r := H
         have dr := Z cW
         clear cW
         rcases bT with _ | dA
         ·have H1 : (if cg.isNone = true then (if a5 = aW then ((shutterref10_Same.f aB aL aM aN aO aP aQ an ao W ap aq ar).bind fun aF => (some aF)) else (none)) else (none)) = some r := by rw [if_pos (show (none : Option Er).isNone = true by rfl)] at H; exact H
          clear H
          have H := H1
          clear H1
          try simp only [errW_none, errW_some]
          rcases cg with _ | dB
          ·have H1 : (if a5 = aW then ((shutterref10_Same.f aB aL aM aN aO aP aQ an ao W ap aq ar).bind fun aF => (some aF)) else (none)) = some r := by rw [if_pos (show (none : Option Er).isNone = true by rfl)] at H; exact H
           clear H
           have H := H1
           clear H1
           try simp only [errW_none, errW_some]
           by_cases b0 : a5 = aW
           ·rw [if_pos b0] at H
            have gk : (a5 == aW) = true := beq_iff_eq.mpr b0
            have gl : (a5 != aW) = false := bne_eq_false_iff_eq.mpr b0
            clear b0
            replace H := Option.bind_eq_some_iff.mp H
            obtain ⟨aF, cX, H⟩ := H
            replace H : (some aF) = some r := H
            have fO := Z cX
            clear cX
            obtain rfl := Option.some.inj H
            obtain ⟨dD, dE, dF, dG, dH, dI, ed, ee, ef, eg, eh, ei⟩ := cells6 b.out
            try go_wp2_with (first | ((with_reducible refine gate_callee (f := 24) rfl ?_); refine goesL_ (some 49) rfl rfl Tryd.func24 (by kernel_rfl) rfl #[.agg #[.int .i64 M, .int .i64 O, .slice aJ D.length aK, .int .i64 Q, .bool R, .bool T], .int .i64 (Int.tmod (wrap64 (a1)) (D.length : Int)), .slice A2 l2.length c2] rfl ag_ ?_; (with_reducible refine (paint_All.calls aB M O (fun k_ => k_ < w.heap.size) _ _ D Q R T (Int.tmod (wrap64 (a1)) (D.length : Int)) _ _ l2 an ao W ap aq ar aW none bi _ ?side1 ?side2 ?side3 cT.out).mono ?_); (case side1 => exact Kd.V_mk bl.out (Kd.F_below (Kd.C_F k44_heap bm.out) bl_)); (case side2 => repeat (first | exact (Kd.C_below bW.out HB.out) | (with_reducible apply pC))); (case side3 => exact bV.out); rintro e ho ⟨dC, bo, rfl, a0, a2, hb⟩; refine ⟨_, rfl, ?_⟩; have A := Z (Kd.V_lower (Kd.V_mono (ok' := fun k_ => k_ ≠ x) a0 (fun k_ hk_ => Or.elim hk_ (fun hs_ => fun e_ => Nat.not_le.2 hs_ (by rw [e_]; exact a6.out)) (fun hn_ => (fb b.out k_ hn_)))) (below_size bl_)); have B := Z (Kd.V_lower (Kd.V_mono (ok' := fun k_ => k_ ≠ x) a2 (fun k_ hk_ => Or.elim hk_ (fun hs_ => fun e_ => Nat.not_le.2 hs_ (by rw [e_]; exact a6.out)) (fun hn_ => (fb b.out k_ hn_)))) (below_size bl_)); replace b := Z (kb b.out hb); replace HB := Z (below_step bl_ hb); (try clear hb); (try clear bc); (try clear hk); (try clear hi); (try clear a0); (try clear a2); (try simp only [errW_none, errW_some])) | ((with_reducible refine gate_dst (N := 11) rfl ?_); refine bx_ 11 24 #[.int .i64 0, .int .i64 0, .slice none 0 0, .int .i64 0, .bool false, .bool false] ?_; intro l hg bM hbox hb; replace A := Z (ve A.out hg hb); replace B := Z (ve B.out hg hb); have y := Z (hbox); have bq := Z (ln_ hg : w.heap.size ≤ l); have dn := Z (ln_ hg : w.heap.size ≤ l); replace HB := Z (below_step bl_ hb); have a7 := Z (nl b.out hg); have bd := Z (ng b.out hg); replace b := Z (kb b.out hb); clear hb hbox hg; have gy := bd.out; have gE := a7.out; obtain ⟨dJ, dK, dL, dM, dN, dO, ej, ek, el, em, en, eo⟩ := cells6 y.out; obtain ⟨aH, aE, dx⟩ := Kd.V_slice A.out; subst dx))
            have E : Aside0 (Kd.V k44 44 ((((((bM.setCell ⟨l, 0, none⟩ (.int .i64 an)).setCell ⟨l, 1, none⟩ (.int .i64 ao)).setCell ⟨l, 2, none⟩ (.slice aH W.length aE)).setCell ⟨l, 3, none⟩ (.int .i64 ap)).setCell ⟨l, 4, none⟩ (.bool aq)).setCell ⟨l, 5, none⟩ (.bool ar)) w.heap.size (fun k_ => k_ ≠ x ∧ k_ ≠ l) (.slice aH W.length aE) W) := ⟨by (with_reducible repeat apply pV); exact Kd.V_mono (f6V l (Kd.V_mono A.out (fun k_ hk => (⟨hk, hk.2⟩ : _ ∧ k_ ≠ l))) (fun _ hk => hk.2)) (fun _ hk => ⟨hk.1.1, hk.1.2⟩)⟩
            have F : Aside0 (Kd.V k184 184 ((((((bM.setCell ⟨l, 0, none⟩ (.int .i64 an)).setCell ⟨l, 1, none⟩ (.int .i64 ao)).setCell ⟨l, 2, none⟩ (.slice aH W.length aE)).setCell ⟨l, 3, none⟩ (.int .i64 ap)).setCell ⟨l, 4, none⟩ (.bool aq)).setCell ⟨l, 5, none⟩ (.bool ar)) w.heap.size (fun k_ => k_ ≠ x ∧ k_ ≠ l) bo bi) := ⟨by (with_reducible repeat apply pV); exact Kd.V_mono (f6V l (Kd.V_mono B.out (fun k_ hk => (⟨hk, hk.2⟩ : _ ∧ k_ ≠ l))) (fun _ hk => hk.2)) (fun _ hk => ⟨hk.1.1, hk.1.2⟩)⟩
            have I : Aside0 (((((((bM.setCell ⟨l, 0, none⟩ (.int .i64 an)).setCell ⟨l, 1, none⟩ (.int .i64 ao)).setCell ⟨l, 2, none⟩ (.slice aH W.length aE)).setCell ⟨l, 3, none⟩ (.int .i64 ap)).setCell ⟨l, 4, none⟩ (.bool aq)).setCell ⟨l, 5, none⟩ (.bool ar)).heap[x]? = some (.cells #[.int .i64 M, .int .i64 O, .slice aJ D.length aK, .int .i64 Q, .bool R, .bool T] 24 (0, 0))) := ⟨by (with_reducible repeat apply pK); exact blk_off b.out a7.out off2_⟩
            have J : Aside0 (((((((bM.setCell ⟨l, 0, none⟩ (.int .i64 an)).setCell ⟨l, 1, none⟩ (.int .i64 ao)).setCell ⟨l, 2, none⟩ (.slice aH W.length aE)).setCell ⟨l, 3, none⟩ (.int .i64 ap)).setCell ⟨l, 4, none⟩ (.bool aq)).setCell ⟨l, 5, none⟩ (.bool ar)).heap[l]? = some (.cells #[.int .i64 an, .int .i64 ao, .slice aH W.length aE, .int .i64 ap, .bool aq, .bool ar] 24 (0, 0))) := ⟨put6 y.out⟩
            have X : Aside0 (Below w.heap.size w ((((((bM.setCell ⟨l, 0, none⟩ (.int .i64 an)).setCell ⟨l, 1, none⟩ (.int .i64 ao)).setCell ⟨l, 2, none⟩ (.slice aH W.length aE)).setCell ⟨l, 3, none⟩ (.int .i64 ap)).setCell ⟨l, 4, none⟩ (.bool aq)).setCell ⟨l, 5, none⟩ (.bool ar))) := ⟨bl_⟩
            (try clear A)
            (try clear B)
            (try clear b)
            (try clear y)
            (try clear HB)
            generalize ((((((bM.setCell ⟨l, 0, none⟩ (.int .i64 an)).setCell ⟨l, 1, none⟩ (.int .i64 ao)).setCell ⟨l, 2, none⟩ (.slice aH W.length aE)).setCell ⟨l, 3, none⟩ (.int .i64 ap)).setCell ⟨l, 4, none⟩ (.bool aq)).setCell ⟨l, 5, none⟩ (.bool ar)) = fS at E F I J X ⊢
            have A := E
            have B := F
            have b := I
            have y := J
            have HB := X
            clear E F I J X
            have E := Z (Kd.V_drew A.out)
            have F := Z (Kd.V_drew B.out)
            have I := Z (blk_drew b.out)
            have J := Z (blk_drew y.out)
            have X := Z (below_drew1 HB.out)
            clear A
            clear B
            clear b
            clear y
            clear HB
            have A := E
            have B := F
            have b := I
            have y := J
            have HB := X
            clear E F I J X
            have dk : ((am) : Int) ≤ ((l2.length : Int) : Int) := od_
            obtain ⟨i042, co, _, dp, _⟩ := info_parts info30
            have hroom42 : l2.length ≤ c2 := bV.out
            have df : Kd.C k30 _ A2 l2.length l2 := bW.out
            have dh := cut_to (P := Tryd.prog) 46 30 .i64 Tryd.underlying46 co A2 l2.length c2 (am) (od_) dk hroom42
            have ce := Kd.C_take (m := ((am) : Int).toNat) df (by omega)
            have cf : bp.length = ((am) : Int).toNat := (by rw [cj.out, List.length_take]; omega)
            rw [← cj.out] at ce
            rw [← cf] at dh
            have bN := Z ce
            have ch := Z (show bp.length ≤ c2 from by omega)
            clear ce df hroom42 co dp
            have gN := Z cf
            clear cf
            replace dk := eq_true dk
            refine start_ (n := 14) (S := fun w' => w'.cell? ⟨x, 0, none⟩ = some (.int .i64 M) ∧ w'.cell? ⟨x, 1, none⟩ = some (.int .i64 O) ∧ w'.cell? ⟨x, 2, none⟩ = some (.slice aJ D.length aK) ∧ w'.cell? ⟨x, 3, none⟩ = some (.int .i64 Q) ∧ w'.cell? ⟨x, 4, none⟩ = some (.bool R) ∧ w'.cell? ⟨x, 5, none⟩ = some (.bool T)) (ds := []) (bv 14 0) (by kernel_rfl) rfl rfl ⟨(blk_cell b.out 0).trans rfl, (blk_cell b.out 1).trans rfl, (blk_cell b.out 2).trans rfl, (blk_cell b.out 3).trans rfl, (blk_cell b.out 4).trans rfl, (blk_cell b.out 5).trans rfl⟩ (fun hHeld => ?_); refine with_tabW shutterlaw12_PaintParts.tab8 shutterlaw12_PaintParts.bits8 (fun HT_ HW_ => ?_)
            generalize fS.drew = hp at A B b y HB bN hHeld ⊢
            refine pure_ (i := 1) (N := some 57) (v := ?_) (a' := ?_) (bv 14 2) rfl rfl (any_of HT_.out (by kernel_rfl)) (fun _ _ _ h => h) (Or.inl ⟨by rfl, ?_⟩) ?_ ?_
            rotate_left
            ·intro w'
             go_simp
             with_reducible rfl
            rotate_left
            ·simp only [Act.put, sA, sB, sC, i64_w, i32_w]
             rfl
            refine pure_ (i := 2) (N := some 58) (v := ?_) (a' := ?_) (bv 14 6) rfl rfl (any_of HT_.out (by kernel_rfl)) (fun _ _ _ h => h) (Or.inl ⟨by rfl, ?_⟩) ?_ ?_
            rotate_left
            ·intro w'
             go_simp
             with_reducible rfl
            rotate_left
            ·simp only [Act.put, sA, sB, sC, i64_w, i32_w]
             rfl
            refine pure_ (i := 3) (N := some 59) (v := ?_) (a' := ?_) (bv 14 14) rfl rfl (any_of HT_.out (by kernel_rfl)) (fun _ _ _ h => h) (Or.inl ⟨by rfl, ?_⟩) ?_ ?_
            rotate_left
            ·intro w'
             go_simp
             with_reducible rfl
            rotate_left
            ·simp only [Act.put, sA, sB, sC, i64_w, i32_w]
             rfl
            refine pure_ (i := 4) (N := some 60) (v := ?_) (a' := ?_) (bv 14 30) rfl rfl (any_of HT_.out (by kernel_rfl)) (fun _ _ _ h => h) (Or.inl ⟨by rfl, ?_⟩) ?_ ?_
            rotate_left
            ·intro w'
             go_simp
             with_reducible rfl
            rotate_left
            ·simp only [Act.put, sA, sB, sC, i64_w, i32_w]
             rfl
            refine take_ (i := 0) (N := some 56) (v := ?_) (a' := ?_) (bv 14 31) rfl rfl (take_ofW HT_.out HW_.out (by kernel_rfl)) (fun _ _ _ h => h) (Or.inl ⟨by rfl, ?_⟩) hHeld ?_ ?_
            rotate_left
            ·rintro w' ⟨s0, s1, s2, s3, s4, s5⟩
             go_simp
             with_reducible rfl
            rotate_left
            ·simp only [Act.put, sA, sB, sC, i64_w, i32_w]
             rfl
            refine join_ (σ := Value × Value × Nat) 3 (bv 14 2047) (fun s_ => [(61, .tuple #[.agg #[.int .i64 ae, .int .i64 af, s_.1, .int .i64 ag, .bool ah, .bool ai], .int .i64 a4, errW s_.2.1 none]), (14, .pointer (some ⟨s_.2.2, 0, none⟩)), (55, .tuple #[.agg #[.int .i64 ae, .int .i64 af, s_.1, .int .i64 ag, .bool ah, .bool ai], .int .i64 a4, errW s_.2.1 none]), (62, .agg #[.int .i64 ae, .int .i64 af, s_.1, .int .i64 ag, .bool ah, .bool ai]), (63, .int .i64 a4), (64, errW s_.2.1 none)]) (fun s_ w' => (w'.cell? ⟨x, 0, none⟩ = some (.int .i64 M) ∧ w'.cell? ⟨x, 1, none⟩ = some (.int .i64 O) ∧ w'.cell? ⟨x, 2, none⟩ = some (.slice aJ D.length aK) ∧ w'.cell? ⟨x, 3, none⟩ = some (.int .i64 Q) ∧ w'.cell? ⟨x, 4, none⟩ = some (.bool R) ∧ w'.cell? ⟨x, 5, none⟩ = some (.bool T)) ∧ (Kd.V k44 44 w' w.heap.size (fun k_ => k_ ≠ x ∧ k_ ≠ l ∧ k_ ≠ s_.2.2) (.slice aH W.length aE) W) ∧ (Kd.V k184 184 w' w.heap.size (fun k_ => k_ ≠ x ∧ k_ ≠ l ∧ k_ ≠ s_.2.2) bo bi) ∧ (Kd.V k44 44 w' w.heap.size (fun k_ => k_ ≠ x ∧ k_ ≠ l ∧ k_ ≠ s_.2.2) s_.1 Y) ∧ (Kd.V k184 184 w' w.heap.size (fun k_ => k_ ≠ x ∧ k_ ≠ l ∧ k_ ≠ s_.2.2) s_.2.1 bn) ∧ (w'.heap[x]? = some (.cells #[.int .i64 M, .int .i64 O, .slice aJ D.length aK, .int .i64 Q, .bool R, .bool T] 24 (0, 0))) ∧ (w'.heap[l]? = some (.cells #[.int .i64 an, .int .i64 ao, .slice aH W.length aE, .int .i64 ap, .bool aq, .bool ar] 24 (0, 0))) ∧ (w'.heap[s_.2.2]? = some (.cells #[.int .i64 0, .int .i64 0, .slice none 0 0, .int .i64 0, .bool false, .bool false] 24 (0, 0))) ∧ (w.heap.size ≤ s_.2.2) ∧ (w.heap.size ≤ s_.2.2) ∧ (x ≠ s_.2.2) ∧ (s_.2.2 ≠ x) ∧ (l ≠ s_.2.2) ∧ (s_.2.2 ≠ l) ∧ (Below w.heap.size w w')) ?_ ?_
            rotate_left
            ·intro hCont
             refine two_ (i := 5) (j := 10) (Ni := some 61) (Nj := some 14) (bv 14 63) (bv 14 1055) rfl rfl rfl rfl (two_of HT_.out (by kernel_rfl)) (by decide) (by decide) (fun K hK => ?_) (fun K hK => ?_)
             ·skip
              refine goes_ Tryd.func24 (by kernel_rfl) rfl #[.agg #[.int .i64 M, .int .i64 O, .slice aJ D.length aK, .int .i64 Q, .bool R, .bool T], .int .i64 (Int.tmod (wrap64 (a1)) (D.length : Int)), .slice A2 bp.length c2] (by rfl) rfl rfl ag_ ?_
              with_reducible refine (paint_All.calls aB M O (fun k_ => k_ < w.heap.size) _ _ D Q R T (Int.tmod (wrap64 (a1)) (D.length : Int)) _ _ bp ae af Y ag ah ai a4 none bn _ ?side1 ?side2 ?side3 dq.out).mono ?_
              (case side1 => exact Kd.V_mk bl.out (Kd.F_below (Kd.C_F k44_heap bm.out) bl_))
              (case side2 => repeat (first | exact (Kd.C_below bN.out HB.out) | (with_reducible apply pC)))
              (case side3 => exact ch.out)
              rintro e fT ⟨bJ, bj, rfl, a0, a2, hb⟩
              refine ⟨_, rfl, ?_⟩
              have E := Z (vb A.out hb)
              have F := Z (vb B.out hb)
              have I := Z (Kd.V_lower (Kd.V_mono (ok' := fun k_ => k_ ≠ x ∧ k_ ≠ l) a0 (fun k_ hk_ => ⟨Or.elim hk_ (fun hs_ => fun e_ => Nat.not_le.2 hs_ (by rw [e_]; exact a6.out)) (fun hn_ => (fb b.out k_ hn_)), Or.elim hk_ (fun hs_ => fun e_ => Nat.not_le.2 hs_ (by rw [e_]; exact bq.out)) (fun hn_ => (fb y.out k_ hn_))⟩)) (below_size bl_))
              have J := Z (Kd.V_lower (Kd.V_mono (ok' := fun k_ => k_ ≠ x ∧ k_ ≠ l) a2 (fun k_ hk_ => ⟨Or.elim hk_ (fun hs_ => fun e_ => Nat.not_le.2 hs_ (by rw [e_]; exact a6.out)) (fun hn_ => (fb b.out k_ hn_)), Or.elim hk_ (fun hs_ => fun e_ => Nat.not_le.2 hs_ (by rw [e_]; exact bq.out)) (fun hn_ => (fb y.out k_ hn_))⟩)) (below_size bl_))
              have X := Z (kb b.out hb)
              have aa := Z (kb y.out hb)
              have ab := Z (below_step bl_ hb)
              clear A
              clear B
              clear b
              clear y
              clear HB
              have A := E
              have B := F
              have L := I
              have U := J
              have b := X
              have y := aa
              have HB := ab
              clear E F I J X aa ab
              (try clear hb)
              (try clear bc)
              (try clear hk)
              (try clear hi)
              (try clear a0)
              (try clear a2)
              (try simp only [errW_none, errW_some])
              refine hK.out _ _ ⟨(blk_cell b.out 0).trans rfl, (blk_cell b.out 1).trans rfl, (blk_cell b.out 2).trans rfl, (blk_cell b.out 3).trans rfl, (blk_cell b.out 4).trans rfl, (blk_cell b.out 5).trans rfl⟩ (fun hHeld => ?_)
              clear hK K
              refine norm_ (a' := ?_) ?_ ?_
              rotate_left
              ·show Act.put _ (some 61) _ = _
               simp only [Act.put, sA, sB, sC, i64_w, i32_w]
               rfl
              refine pure_ (i := 6) (N := some 55) (v := ?_) (a' := ?_) (bv 14 127) rfl rfl (any_of HT_.out (by kernel_rfl)) (fun _ _ _ h => h) (Or.inl ⟨by rfl, ?_⟩) ?_ ?_
              rotate_left
              ·intro w'
               go_simp
               with_reducible rfl
              rotate_left
              ·simp only [Act.put, sA, sB, sC, i64_w, i32_w]
               rfl
              refine pure_ (i := 7) (N := some 62) (v := ?_) (a' := ?_) (bv 14 255) rfl rfl (any_of HT_.out (by kernel_rfl)) (fun _ _ _ h => h) (Or.inl ⟨by rfl, ?_⟩) ?_ ?_
              rotate_left
              ·intro w'
               go_simp
               with_reducible rfl
              rotate_left
              ·simp only [Act.put, sA, sB, sC, i64_w, i32_w]
               rfl
              refine pure_ (i := 8) (N := some 63) (v := ?_) (a' := ?_) (bv 14 511) rfl rfl (any_of HT_.out (by kernel_rfl)) (fun _ _ _ h => h) (Or.inl ⟨by rfl, ?_⟩) ?_ ?_
              rotate_left
              ·intro w'
               go_simp
               with_reducible rfl
              rotate_left
              ·simp only [Act.put, sA, sB, sC, i64_w, i32_w]
               rfl
              refine pure_ (i := 9) (N := some 64) (v := ?_) (a' := ?_) (bv 14 1023) rfl rfl (any_of HT_.out (by kernel_rfl)) (fun _ _ _ h => h) (Or.inl ⟨by rfl, ?_⟩) ?_ ?_
              rotate_left
              ·intro w'
               go_simp
               with_reducible rfl
              rotate_left
              ·simp only [Act.put, sA, sB, sC, i64_w, i32_w]
               rfl
              refine one_ (i := 10) (N := some 14) (bv 14 2047) rfl rfl (one_of HT_.out (by kernel_rfl)) (by decide) (fun K hK => ?_)
              refine box_step ?hg (N := 14) ?hd (cs := #[.int .i64 0, .int .i64 0, .slice none 0 0, .int .i64 0, .bool false, .bool false]) (t := 24) ?hr ?_; (case hd => rfl); (case hg => rfl); (case hr => first | (go_simp; done) | (go_simp; rfl))
              intro a hg fU hbox hb
              have E := Z (ve A.out hg hb)
              have F := Z (ve B.out hg hb)
              have I := Z (ve L.out hg hb)
              have J := Z (ve U.out hg hb)
              have X := Z (kb b.out hb)
              have aa := Z (kb y.out hb)
              have ab := Z (below_step bl_ hb)
              have ad := Z (hbox)
              have aC := Z (ln_ hg : w.heap.size ≤ a)
              have aI := Z (ln_ hg : w.heap.size ≤ a)
              have aD := Z (nl b.out hg)
              have aR := Z (ng b.out hg)
              have aU := Z (nl y.out hg)
              have aV := Z (ng y.out hg)
              clear A
              clear B
              clear L
              clear U
              clear b
              clear y
              clear HB
              have A := E
              have B := F
              have L := I
              have U := J
              have b := X
              have y := aa
              have HB := ab
              have u := ad
              have bk := aC
              have bu := aI
              have s := aD
              have aA := aR
              have ak := aU
              have au := aV
              clear E F I J X aa ab ad aC aI aD aR aU aV
              clear hb hbox hg
              refine hK.out _ _ ⟨(blk_cell b.out 0).trans rfl, (blk_cell b.out 1).trans rfl, (blk_cell b.out 2).trans rfl, (blk_cell b.out 3).trans rfl, (blk_cell b.out 4).trans rfl, (blk_cell b.out 5).trans rfl⟩ (fun hHeld => ?_)
              clear hK K
              refine norm_ (a' := ?_) ?_ ?_
              rotate_left
              ·show Act.put _ (some 14) _ = _
               simp only [Act.put, sA, sB, sC, i64_w, i32_w]
               rfl
              exact norm_ (by simp only [putAll, Act.put, sA, sB, sC, errW_none, errW_some]) (hCont (bJ, bj, a) _ ⟨hHeld, (by (with_reducible repeat apply pV); exact Kd.V_mono A.out (fun _ hk => ⟨hk.1.1, ⟨hk.1.2, hk.2⟩⟩)), (by (with_reducible repeat apply pV); exact Kd.V_mono B.out (fun _ hk => ⟨hk.1.1, ⟨hk.1.2, hk.2⟩⟩)), (by (with_reducible repeat apply pV); exact Kd.V_mono L.out (fun _ hk => ⟨hk.1.1, ⟨hk.1.2, hk.2⟩⟩)), (by (with_reducible repeat apply pV); exact Kd.V_mono U.out (fun _ hk => ⟨hk.1.1, ⟨hk.1.2, hk.2⟩⟩)), (vK b.out), (vK y.out), (vK u.out), bk.out, bu.out, s.out, aA.out, ak.out, au.out, bl_⟩)
             ·skip
              refine box_step ?hg (N := 14) ?hd (cs := #[.int .i64 0, .int .i64 0, .slice none 0 0, .int .i64 0, .bool false, .bool false]) (t := 24) ?hr ?_; (case hd => rfl); (case hg => rfl); (case hr => first | (go_simp; done) | (go_simp; rfl))
              intro a hg fT hbox hb
              have E := Z (ve A.out hg hb)
              have F := Z (ve B.out hg hb)
              have I := Z (kb b.out hb)
              have J := Z (kb y.out hb)
              have X := Z (below_step bl_ hb)
              have aa := Z (hbox)
              have ab := Z (ln_ hg : w.heap.size ≤ a)
              have ad := Z (ln_ hg : w.heap.size ≤ a)
              have aC := Z (nl b.out hg)
              have aI := Z (ng b.out hg)
              have aD := Z (nl y.out hg)
              have aR := Z (ng y.out hg)
              clear A
              clear B
              clear b
              clear y
              clear HB
              have A := E
              have B := F
              have b := I
              have y := J
              have HB := X
              have u := aa
              have bk := ab
              have bu := ad
              have s := aC
              have aA := aI
              have ak := aD
              have au := aR
              clear E F I J X aa ab ad aC aI aD aR
              clear hb hbox hg
              refine hK.out _ _ ⟨(blk_cell b.out 0).trans rfl, (blk_cell b.out 1).trans rfl, (blk_cell b.out 2).trans rfl, (blk_cell b.out 3).trans rfl, (blk_cell b.out 4).trans rfl, (blk_cell b.out 5).trans rfl⟩ (fun hHeld => ?_)
              clear hK K
              refine norm_ (a' := ?_) ?_ ?_
              rotate_left
              ·show Act.put _ (some 14) _ = _
               simp only [Act.put, sA, sB, sC, i64_w, i32_w]
               rfl
              refine one_ (i := 5) (N := some 61) (bv 14 1087) rfl rfl (one_of HT_.out (by kernel_rfl)) (by decide) (fun K hK => ?_)
              refine goes_ Tryd.func24 (by kernel_rfl) rfl #[.agg #[.int .i64 M, .int .i64 O, .slice aJ D.length aK, .int .i64 Q, .bool R, .bool T], .int .i64 (Int.tmod (wrap64 (a1)) (D.length : Int)), .slice A2 bp.length c2] (by rfl) rfl rfl ag_ ?_
              with_reducible refine (paint_All.calls aB M O (fun k_ => k_ < w.heap.size) _ _ D Q R T (Int.tmod (wrap64 (a1)) (D.length : Int)) _ _ bp ae af Y ag ah ai a4 none bn _ ?side1 ?side2 ?side3 dq.out).mono ?_
              (case side1 => exact Kd.V_mk bl.out (Kd.F_below (Kd.C_F k44_heap bm.out) bl_))
              (case side2 => repeat (first | exact (Kd.C_below bN.out HB.out) | (with_reducible apply pC)))
              (case side3 => exact ch.out)
              rintro e fU ⟨bJ, bj, rfl, a0, a2, hb⟩
              refine ⟨_, rfl, ?_⟩
              have E := Z (vb A.out hb)
              have F := Z (vb B.out hb)
              have I := Z (Kd.V_lower (Kd.V_mono (ok' := fun k_ => k_ ≠ x ∧ k_ ≠ l ∧ k_ ≠ a) a0 (fun k_ hk_ => ⟨Or.elim hk_ (fun hs_ => fun e_ => Nat.not_le.2 hs_ (by rw [e_]; exact a6.out)) (fun hn_ => (fb b.out k_ hn_)), Or.elim hk_ (fun hs_ => fun e_ => Nat.not_le.2 hs_ (by rw [e_]; exact bq.out)) (fun hn_ => (fb y.out k_ hn_)), Or.elim hk_ (fun hs_ => fun e_ => Nat.not_le.2 hs_ (by rw [e_]; exact bk.out)) (fun hn_ => (fb u.out k_ hn_))⟩)) (below_size bl_))
              have J := Z (Kd.V_lower (Kd.V_mono (ok' := fun k_ => k_ ≠ x ∧ k_ ≠ l ∧ k_ ≠ a) a2 (fun k_ hk_ => ⟨Or.elim hk_ (fun hs_ => fun e_ => Nat.not_le.2 hs_ (by rw [e_]; exact a6.out)) (fun hn_ => (fb b.out k_ hn_)), Or.elim hk_ (fun hs_ => fun e_ => Nat.not_le.2 hs_ (by rw [e_]; exact bq.out)) (fun hn_ => (fb y.out k_ hn_)), Or.elim hk_ (fun hs_ => fun e_ => Nat.not_le.2 hs_ (by rw [e_]; exact bk.out)) (fun hn_ => (fb u.out k_ hn_))⟩)) (below_size bl_))
              have X := Z (kb b.out hb)
              have aa := Z (kb y.out hb)
              have ab := Z (kb u.out hb)
              have ad := Z (below_step bl_ hb)
              clear A
              clear B
              clear b
              clear y
              clear u
              clear HB
              have A := E
              have B := F
              have L := I
              have U := J
              have b := X
              have y := aa
              have u := ab
              have HB := ad
              clear E F I J X aa ab ad
              (try clear hb)
              (try clear bc)
              (try clear hk)
              (try clear hi)
              (try clear a0)
              (try clear a2)
              (try simp only [errW_none, errW_some])
              refine hK.out _ _ ⟨(blk_cell b.out 0).trans rfl, (blk_cell b.out 1).trans rfl, (blk_cell b.out 2).trans rfl, (blk_cell b.out 3).trans rfl, (blk_cell b.out 4).trans rfl, (blk_cell b.out 5).trans rfl⟩ (fun hHeld => ?_)
              clear hK K
              refine norm_ (a' := ?_) ?_ ?_
              rotate_left
              ·show Act.put _ (some 61) _ = _
               simp only [Act.put, sA, sB, sC, i64_w, i32_w]
               rfl
              refine pure_ (i := 6) (N := some 55) (v := ?_) (a' := ?_) (bv 14 1151) rfl rfl (any_of HT_.out (by kernel_rfl)) (fun _ _ _ h => h) (Or.inl ⟨by rfl, ?_⟩) ?_ ?_
              rotate_left
              ·intro w'
               go_simp
               with_reducible rfl
              rotate_left
              ·simp only [Act.put, sA, sB, sC, i64_w, i32_w]
               rfl
              refine pure_ (i := 7) (N := some 62) (v := ?_) (a' := ?_) (bv 14 1279) rfl rfl (any_of HT_.out (by kernel_rfl)) (fun _ _ _ h => h) (Or.inl ⟨by rfl, ?_⟩) ?_ ?_
              rotate_left
              ·intro w'
               go_simp
               with_reducible rfl
              rotate_left
              ·simp only [Act.put, sA, sB, sC, i64_w, i32_w]
               rfl
              refine pure_ (i := 8) (N := some 63) (v := ?_) (a' := ?_) (bv 14 1535) rfl rfl (any_of HT_.out (by kernel_rfl)) (fun _ _ _ h => h) (Or.inl ⟨by rfl, ?_⟩) ?_ ?_
              rotate_left
              ·intro w'
               go_simp
               with_reducible rfl
              rotate_left
              ·simp only [Act.put, sA, sB, sC, i64_w, i32_w]
               rfl
              refine pure_ (i := 9) (N := some 64) (v := ?_) (a' := ?_) (bv 14 2047) rfl rfl (any_of HT_.out (by kernel_rfl)) (fun _ _ _ h => h) (Or.inl ⟨by rfl, ?_⟩) ?_ ?_
              rotate_left
              ·intro w'
               go_simp
               with_reducible rfl
              rotate_left
              ·simp only [Act.put, sA, sB, sC, i64_w, i32_w]
               rfl
              exact norm_ (by simp only [putAll, Act.put, sA, sB, sC, errW_none, errW_some]) (hCont (bJ, bj, a) _ ⟨hHeld, (by (with_reducible repeat apply pV); exact Kd.V_mono A.out (fun _ hk => ⟨hk.1.1, ⟨hk.1.2, hk.2⟩⟩)), (by (with_reducible repeat apply pV); exact Kd.V_mono B.out (fun _ hk => ⟨hk.1.1, ⟨hk.1.2, hk.2⟩⟩)), (vV L.out), (vV U.out), (vK b.out), (vK y.out), (vK u.out), bk.out, bu.out, s.out, aA.out, ak.out, au.out, bl_⟩)
            rintro ⟨bJ, bj, a⟩ aG ⟨hS_, b3, b4, b5, b6, b7, b8, b9, ca, cb, cc, bC, bD, bE, bF⟩
            have E : Aside0 (Kd.V k44 44 aG w.heap.size (fun k_ => k_ ≠ x ∧ k_ ≠ l ∧ k_ ≠ a) (.slice aH W.length aE) W) := ⟨b3⟩
            have F : Aside0 (Kd.V k184 184 aG w.heap.size (fun k_ => k_ ≠ x ∧ k_ ≠ l ∧ k_ ≠ a) bo bi) := ⟨b4⟩
            have I : Aside0 (Kd.V k44 44 aG w.heap.size (fun k_ => k_ ≠ x ∧ k_ ≠ l ∧ k_ ≠ a) bJ Y) := ⟨b5⟩
            have J : Aside0 (Kd.V k184 184 aG w.heap.size (fun k_ => k_ ≠ x ∧ k_ ≠ l ∧ k_ ≠ a) bj bn) := ⟨b6⟩
            have X : Aside0 (aG.heap[x]? = some (.cells #[.int .i64 M, .int .i64 O, .slice aJ D.length aK, .int .i64 Q, .bool R, .bool T] 24 (0, 0))) := ⟨b7⟩
            have aa : Aside0 (aG.heap[l]? = some (.cells #[.int .i64 an, .int .i64 ao, .slice aH W.length aE, .int .i64 ap, .bool aq, .bool ar] 24 (0, 0))) := ⟨b8⟩
            have ab : Aside0 (aG.heap[a]? = some (.cells #[.int .i64 0, .int .i64 0, .slice none 0 0, .int .i64 0, .bool false, .bool false] 24 (0, 0))) := ⟨b9⟩
            have ad : Aside0 (w.heap.size ≤ a) := ⟨ca⟩
            have aC : Aside0 (w.heap.size ≤ a) := ⟨cb⟩
            have aI : Aside0 (x ≠ a) := ⟨cc⟩
            have aD : Aside0 (a ≠ x) := ⟨bC⟩
            have aR : Aside0 (l ≠ a) := ⟨bD⟩
            have aU : Aside0 (a ≠ l) := ⟨bE⟩
            have aV : Aside0 (Below w.heap.size w aG) := ⟨bF⟩
            clear A
            clear B
            clear b
            clear y
            clear HB
            clear b3 b4 b5 b6 b7 b8 b9 ca cb cc bC bD bE bF
            have A := E
            have B := F
            have L := I
            have U := J
            have b := X
            have y := aa
            have u := ab
            have bk := ad
            have bu := aC
            have s := aI
            have aA := aD
            have ak := aR
            have au := aU
            have HB := aV
            clear E F I J X aa ab ad aC aI aD aR aU aV
            have hHeld : aG.cell? ⟨x, 0, none⟩ = some (.int .i64 M) ∧ aG.cell? ⟨x, 1, none⟩ = some (.int .i64 O) ∧ aG.cell? ⟨x, 2, none⟩ = some (.slice aJ D.length aK) ∧ aG.cell? ⟨x, 3, none⟩ = some (.int .i64 Q) ∧ aG.cell? ⟨x, 4, none⟩ = some (.bool R) ∧ aG.cell? ⟨x, 5, none⟩ = some (.bool T) := hS_
            obtain ⟨ay, az, c3⟩ := Kd.V_slice L.out
            (first | subst c3 | (injection c3 with b1 c6 b2; have c7 := b1.symm; have c9 := b2.symm; clear b1 c6 b2; subst c7; subst c9))
            refine norm_ (a' := ?_) ?_ ?_
            rotate_left
            ·simp only [putAll, Act.put, sA, sB, sC]
             rfl
            refine one_ (i := 11) (N := none) (bv 14 4095) rfl rfl (one_of HT_.out (by kernel_rfl)) (by decide) (fun K hK => ?_)
            have gQ : aG.cell? ⟨a, 0, none⟩ = some (.int .i64 0) := (blk_cell u.out 0).trans rfl
            have gm := blk_frozen u.out 0
            have fi := s.out
            have fj := ak.out
            have eN := aA.out
            have eO := au.out
            have gR : aG.cell? ⟨a, 1, none⟩ = some (.int .i64 0) := (blk_cell u.out 1).trans rfl
            have gn := blk_frozen u.out 1
            have fk := s.out
            have fl := ak.out
            have eP := aA.out
            have eQ := au.out
            have gS : aG.cell? ⟨a, 2, none⟩ = some (.slice none 0 0) := (blk_cell u.out 2).trans rfl
            have go := blk_frozen u.out 2
            have fm := s.out
            have fn := ak.out
            have eR := aA.out
            have eS := au.out
            have gT : aG.cell? ⟨a, 3, none⟩ = some (.int .i64 0) := (blk_cell u.out 3).trans rfl
            have gp := blk_frozen u.out 3
            have fo := s.out
            have fp := ak.out
            have eT := aA.out
            have eU := au.out
            have gU : aG.cell? ⟨a, 4, none⟩ = some (.bool false) := (blk_cell u.out 4).trans rfl
            have gq := blk_frozen u.out 4
            have fq := s.out
            have fr := ak.out
            have eV := aA.out
            have eW := au.out
            have gV : aG.cell? ⟨a, 5, none⟩ = some (.bool false) := (blk_cell u.out 5).trans rfl
            have gr := blk_frozen u.out 5
            have fs := s.out
            have ft := ak.out
            have eX := aA.out
            have eY := au.out
            refine skip_ (w1 := ?_) (by rfl) rfl ?_ ?_
            rotate_left
            ·go_simp
             rfl
            refine hK.out _ _ ⟨((cell_far (p := ⟨a, _, none⟩) s.out _).trans (((cell_far (p := ⟨a, _, none⟩) s.out _).trans (((cell_far (p := ⟨a, _, none⟩) s.out _).trans (((cell_far (p := ⟨a, _, none⟩) s.out _).trans (((cell_far (p := ⟨a, _, none⟩) s.out _).trans (((cell_far (p := ⟨a, _, none⟩) s.out _).trans (hHeld.1)))))))))))), ((cell_far (p := ⟨a, _, none⟩) s.out _).trans (((cell_far (p := ⟨a, _, none⟩) s.out _).trans (((cell_far (p := ⟨a, _, none⟩) s.out _).trans (((cell_far (p := ⟨a, _, none⟩) s.out _).trans (((cell_far (p := ⟨a, _, none⟩) s.out _).trans (((cell_far (p := ⟨a, _, none⟩) s.out _).trans (hHeld.2.1)))))))))))), ((cell_far (p := ⟨a, _, none⟩) s.out _).trans (((cell_far (p := ⟨a, _, none⟩) s.out _).trans (((cell_far (p := ⟨a, _, none⟩) s.out _).trans (((cell_far (p := ⟨a, _, none⟩) s.out _).trans (((cell_far (p := ⟨a, _, none⟩) s.out _).trans (((cell_far (p := ⟨a, _, none⟩) s.out _).trans (hHeld.2.2.1)))))))))))), ((cell_far (p := ⟨a, _, none⟩) s.out _).trans (((cell_far (p := ⟨a, _, none⟩) s.out _).trans (((cell_far (p := ⟨a, _, none⟩) s.out _).trans (((cell_far (p := ⟨a, _, none⟩) s.out _).trans (((cell_far (p := ⟨a, _, none⟩) s.out _).trans (((cell_far (p := ⟨a, _, none⟩) s.out _).trans (hHeld.2.2.2.1)))))))))))), ((cell_far (p := ⟨a, _, none⟩) s.out _).trans (((cell_far (p := ⟨a, _, none⟩) s.out _).trans (((cell_far (p := ⟨a, _, none⟩) s.out _).trans (((cell_far (p := ⟨a, _, none⟩) s.out _).trans (((cell_far (p := ⟨a, _, none⟩) s.out _).trans (((cell_far (p := ⟨a, _, none⟩) s.out _).trans (hHeld.2.2.2.2.1)))))))))))), ((cell_far (p := ⟨a, _, none⟩) s.out _).trans (((cell_far (p := ⟨a, _, none⟩) s.out _).trans (((cell_far (p := ⟨a, _, none⟩) s.out _).trans (((cell_far (p := ⟨a, _, none⟩) s.out _).trans (((cell_far (p := ⟨a, _, none⟩) s.out _).trans (((cell_far (p := ⟨a, _, none⟩) s.out _).trans (hHeld.2.2.2.2.2))))))))))))⟩ (fun hHeld => ?_)
            clear hK K
            refine pure_ (i := 12) (N := some 15) (v := ?_) (a' := ?_) (bv 14 8191) rfl rfl (any_of HT_.out (by kernel_rfl)) (fun _ _ _ h => h) (Or.inl ⟨by rfl, ?_⟩) ?_ ?_
            rotate_left
            ·intro w'
             go_simp
             with_reducible rfl
            rotate_left
            ·simp only [Act.put, sA, sB, sC, i64_w, i32_w]
             rfl
            refine pure_ (i := 13) (N := some 16) (v := ?_) (a' := ?_) (bv 14 16383) rfl rfl (any_of HT_.out (by kernel_rfl)) (fun _ _ _ h => h) (Or.inl ⟨by rfl, ?_⟩) ?_ ?_
            rotate_left
            ·intro w'
             go_simp
             with_reducible rfl
            rotate_left
            ·simp only [Act.put, sA, sB, sC, i64_w, i32_w]
             rfl
            refine done_ (done_of HT_.out (by kernel_rfl)) ?_
            try simp only [errW_none, errW_some]
            try go_wp2
            have E : Aside0 (Kd.V k44 44 ((((((aG.setCell ⟨a, 0, none⟩ (.int .i64 ae)).setCell ⟨a, 1, none⟩ (.int .i64 af)).setCell ⟨a, 2, none⟩ (.slice ay Y.length az)).setCell ⟨a, 3, none⟩ (.int .i64 ag)).setCell ⟨a, 4, none⟩ (.bool ah)).setCell ⟨a, 5, none⟩ (.bool ai)) w.heap.size (fun k_ => k_ ≠ x ∧ k_ ≠ l ∧ k_ ≠ a) (.slice aH W.length aE) W) := ⟨by (with_reducible repeat apply pV); exact Kd.V_mono (f6V a (Kd.V_mono A.out (fun k_ hk => (⟨hk, hk.2.2⟩ : _ ∧ k_ ≠ a))) (fun _ hk => hk.2)) (fun _ hk => ⟨hk.1.1, ⟨hk.1.2.1, hk.1.2.2⟩⟩)⟩
            have F : Aside0 (Kd.V k184 184 ((((((aG.setCell ⟨a, 0, none⟩ (.int .i64 ae)).setCell ⟨a, 1, none⟩ (.int .i64 af)).setCell ⟨a, 2, none⟩ (.slice ay Y.length az)).setCell ⟨a, 3, none⟩ (.int .i64 ag)).setCell ⟨a, 4, none⟩ (.bool ah)).setCell ⟨a, 5, none⟩ (.bool ai)) w.heap.size (fun k_ => k_ ≠ x ∧ k_ ≠ l ∧ k_ ≠ a) bo bi) := ⟨by (with_reducible repeat apply pV); exact Kd.V_mono (f6V a (Kd.V_mono B.out (fun k_ hk => (⟨hk, hk.2.2⟩ : _ ∧ k_ ≠ a))) (fun _ hk => hk.2)) (fun _ hk => ⟨hk.1.1, ⟨hk.1.2.1, hk.1.2.2⟩⟩)⟩
            have I : Aside0 (Kd.V k44 44 ((((((aG.setCell ⟨a, 0, none⟩ (.int .i64 ae)).setCell ⟨a, 1, none⟩ (.int .i64 af)).setCell ⟨a, 2, none⟩ (.slice ay Y.length az)).setCell ⟨a, 3, none⟩ (.int .i64 ag)).setCell ⟨a, 4, none⟩ (.bool ah)).setCell ⟨a, 5, none⟩ (.bool ai)) w.heap.size (fun k_ => k_ ≠ x ∧ k_ ≠ l ∧ k_ ≠ a) (.slice ay Y.length az) Y) := ⟨by (with_reducible repeat apply pV); exact Kd.V_mono (f6V a (Kd.V_mono L.out (fun k_ hk => (⟨hk, hk.2.2⟩ : _ ∧ k_ ≠ a))) (fun _ hk => hk.2)) (fun _ hk => ⟨hk.1.1, ⟨hk.1.2.1, hk.1.2.2⟩⟩)⟩
            have J : Aside0 (Kd.V k184 184 ((((((aG.setCell ⟨a, 0, none⟩ (.int .i64 ae)).setCell ⟨a, 1, none⟩ (.int .i64 af)).setCell ⟨a, 2, none⟩ (.slice ay Y.length az)).setCell ⟨a, 3, none⟩ (.int .i64 ag)).setCell ⟨a, 4, none⟩ (.bool ah)).setCell ⟨a, 5, none⟩ (.bool ai)) w.heap.size (fun k_ => k_ ≠ x ∧ k_ ≠ l ∧ k_ ≠ a) bj bn) := ⟨by (with_reducible repeat apply pV); exact Kd.V_mono (f6V a (Kd.V_mono U.out (fun k_ hk => (⟨hk, hk.2.2⟩ : _ ∧ k_ ≠ a))) (fun _ hk => hk.2)) (fun _ hk => ⟨hk.1.1, ⟨hk.1.2.1, hk.1.2.2⟩⟩)⟩
            have X : Aside0 (((((((aG.setCell ⟨a, 0, none⟩ (.int .i64 ae)).setCell ⟨a, 1, none⟩ (.int .i64 af)).setCell ⟨a, 2, none⟩ (.slice ay Y.length az)).setCell ⟨a, 3, none⟩ (.int .i64 ag)).setCell ⟨a, 4, none⟩ (.bool ah)).setCell ⟨a, 5, none⟩ (.bool ai)).heap[x]? = some (.cells #[.int .i64 M, .int .i64 O, .slice aJ D.length aK, .int .i64 Q, .bool R, .bool T] 24 (0, 0))) := ⟨by (with_reducible repeat apply pK); exact blk_off b.out s.out off2_⟩
            have aa : Aside0 (((((((aG.setCell ⟨a, 0, none⟩ (.int .i64 ae)).setCell ⟨a, 1, none⟩ (.int .i64 af)).setCell ⟨a, 2, none⟩ (.slice ay Y.length az)).setCell ⟨a, 3, none⟩ (.int .i64 ag)).setCell ⟨a, 4, none⟩ (.bool ah)).setCell ⟨a, 5, none⟩ (.bool ai)).heap[l]? = some (.cells #[.int .i64 an, .int .i64 ao, .slice aH W.length aE, .int .i64 ap, .bool aq, .bool ar] 24 (0, 0))) := ⟨by (with_reducible repeat apply pK); exact blk_off y.out ak.out off2_⟩
            have ab : Aside0 (((((((aG.setCell ⟨a, 0, none⟩ (.int .i64 ae)).setCell ⟨a, 1, none⟩ (.int .i64 af)).setCell ⟨a, 2, none⟩ (.slice ay Y.length az)).setCell ⟨a, 3, none⟩ (.int .i64 ag)).setCell ⟨a, 4, none⟩ (.bool ah)).setCell ⟨a, 5, none⟩ (.bool ai)).heap[a]? = some (.cells #[.int .i64 ae, .int .i64 af, .slice ay Y.length az, .int .i64 ag, .bool ah, .bool ai] 24 (0, 0))) := ⟨put6 u.out⟩
            have ad : Aside0 (Below w.heap.size w ((((((aG.setCell ⟨a, 0, none⟩ (.int .i64 ae)).setCell ⟨a, 1, none⟩ (.int .i64 af)).setCell ⟨a, 2, none⟩ (.slice ay Y.length az)).setCell ⟨a, 3, none⟩ (.int .i64 ag)).setCell ⟨a, 4, none⟩ (.bool ah)).setCell ⟨a, 5, none⟩ (.bool ai))) := ⟨bl_⟩
            (try clear A)
            (try clear B)
            (try clear L)
            (try clear U)
            (try clear b)
            (try clear y)
            (try clear u)
            (try clear HB)
            generalize ((((((aG.setCell ⟨a, 0, none⟩ (.int .i64 ae)).setCell ⟨a, 1, none⟩ (.int .i64 af)).setCell ⟨a, 2, none⟩ (.slice ay Y.length az)).setCell ⟨a, 3, none⟩ (.int .i64 ag)).setCell ⟨a, 4, none⟩ (.bool ah)).setCell ⟨a, 5, none⟩ (.bool ai)) = fV at E F I J X aa ab ad ⊢
            have A := E
            have B := F
            have L := I
            have U := J
            have b := X
            have y := aa
            have u := ab
            have HB := ad
            clear E F I J X aa ab ad
            have E := Z (Kd.V_drew A.out)
            have F := Z (Kd.V_drew B.out)
            have I := Z (Kd.V_drew L.out)
            have J := Z (Kd.V_drew U.out)
            have X := Z (blk_drew b.out)
            have aa := Z (blk_drew y.out)
            have ab := Z (blk_drew u.out)
            have ad := Z (below_drew1 HB.out)
            clear A
            clear B
            clear L
            clear U
            clear b
            clear y
            clear u
            clear HB
            have A := E
            have B := F
            have L := I
            have U := J
            have b := X
            have y := aa
            have u := ab
            have HB := ad
            clear E F I J X aa ab ad
            have dl : ((am) : Int) ≤ ((l2.length : Int) : Int) := od_
            obtain ⟨i055, cp, _, cr, _⟩ := info_parts info30
            have hroom55 : l2.length ≤ c2 := bV.out
            have dg : Kd.C k30 _ A2 l2.length l2 := bW.out
            have dz : (0 : Int) ≤ ((am) : Int) := od_
            have di := cut_from (P := Tryd.prog) 46 30 .i64 Tryd.underlying46 cp 8 cr A2 l2.length c2 (am) dz dl
            have bG := Kd.C_drop (m := ((am) : Int).toNat) (c := c2) dg (by omega) hroom55
            obtain ⟨cY, bP⟩ : ∃ A1, A1 = (if c2 = ((am) : Int).toNat then A2 else (A2 : Option Addr).map (·.add (((am) : Int).toNat * 8))) := ⟨_, rfl⟩
            obtain ⟨c0, cd⟩ : ∃ c1, c1 = c2 - ((am) : Int).toNat := ⟨_, rfl⟩
            have bQ : ba.length = l2.length - ((am) : Int).toNat := (by rw [ck.out, List.length_drop] <;> omega)
            rw [show (l2).drop ((am) : Int).toNat = ba from ck.out.symm] at bG
            replace bG : Kd.C k30 _ cY ba.length ba := (by rw [bP]; exact bG)
            rw [← bQ, ← bP, ← cd] at di
            have bO := Z bG
            have ci := Z (show ba.length ≤ c0 from by rw [bQ, cd]; exact Nat.sub_le_sub_right hroom55 _)
            clear bG dg hroom55 cp cr cd
            have gO := Z bQ
            have gM := Z bP
            clear bQ bP
            replace dl := eq_true dl
            refine start_ (n := 14) (S := fun w' => w'.cell? ⟨a, 0, none⟩ = some (.int .i64 ae) ∧ w'.cell? ⟨a, 1, none⟩ = some (.int .i64 af) ∧ w'.cell? ⟨a, 2, none⟩ = some (.slice ay Y.length az) ∧ w'.cell? ⟨a, 3, none⟩ = some (.int .i64 ag) ∧ w'.cell? ⟨a, 4, none⟩ = some (.bool ah) ∧ w'.cell? ⟨a, 5, none⟩ = some (.bool ai)) (ds := []) (bv 14 0) (by kernel_rfl) rfl rfl ⟨(blk_cell u.out 0).trans rfl, (blk_cell u.out 1).trans rfl, (blk_cell u.out 2).trans rfl, (blk_cell u.out 3).trans rfl, (blk_cell u.out 4).trans rfl, (blk_cell u.out 5).trans rfl⟩ (fun hHeld => ?_); refine with_tabW shutterlaw12_PaintParts.tab9 shutterlaw12_PaintParts.bits9 (fun HT_ HW_ => ?_)
            generalize fV.drew = hq at A B L U b y u HB bO hHeld ⊢
            refine pure_ (i := 1) (N := some 67) (v := ?_) (a' := ?_) (bv 14 2) rfl rfl (any_of HT_.out (by kernel_rfl)) (fun _ _ _ h => h) (Or.inl ⟨by rfl, ?_⟩) ?_ ?_
            rotate_left
            ·intro w'
             go_simp
             with_reducible rfl
            rotate_left
            ·simp only [Act.put, sA, sB, sC, i64_w, i32_w]
             rfl
            refine pure_ (i := 2) (N := some 68) (v := ?_) (a' := ?_) (bv 14 6) rfl rfl (any_of HT_.out (by kernel_rfl)) (fun _ _ _ h => h) (Or.inl ⟨by rfl, ?_⟩) ?_ ?_
            rotate_left
            ·intro w'
             go_simp
             with_reducible rfl
            rotate_left
            ·simp only [Act.put, sA, sB, sC, i64_w, i32_w]
             rfl
            refine pure_ (i := 3) (N := some 69) (v := ?_) (a' := ?_) (bv 14 14) rfl rfl (any_of HT_.out (by kernel_rfl)) (fun _ _ _ h => h) (Or.inl ⟨by rfl, ?_⟩) ?_ ?_
            rotate_left
            ·intro w'
             go_simp
             with_reducible rfl
            rotate_left
            ·simp only [Act.put, sA, sB, sC, i64_w, i32_w]
             rfl
            refine pure_ (i := 4) (N := some 70) (v := ?_) (a' := ?_) (bv 14 30) rfl rfl (any_of HT_.out (by kernel_rfl)) (fun _ _ _ h => h) (Or.inl ⟨by rfl, ?_⟩) ?_ ?_
            rotate_left
            ·intro w'
             go_simp
             with_reducible rfl
            rotate_left
            ·simp only [Act.put, sA, sB, sC, i64_w, i32_w]
             rfl
            refine take_ (i := 0) (N := some 66) (v := ?_) (a' := ?_) (bv 14 31) rfl rfl (take_ofW HT_.out HW_.out (by kernel_rfl)) (fun _ _ _ h => h) (Or.inl ⟨by rfl, ?_⟩) hHeld ?_ ?_
            rotate_left
            ·rintro w' ⟨s0, s1, s2, s3, s4, s5⟩
             go_simp
             with_reducible rfl
            rotate_left
            ·simp only [Act.put, sA, sB, sC, i64_w, i32_w]
             rfl
            refine join_ (σ := Value × Value × Nat) 3 (bv 14 2047) (fun s_ => [(71, .tuple #[.agg #[.int .i64 aL, .int .i64 aM, s_.1, .int .i64 aO, .bool aP, .bool aQ], .int .i64 a5, errW s_.2.1 none]), (17, .pointer (some ⟨s_.2.2, 0, none⟩)), (65, .tuple #[.agg #[.int .i64 aL, .int .i64 aM, s_.1, .int .i64 aO, .bool aP, .bool aQ], .int .i64 a5, errW s_.2.1 none]), (72, .agg #[.int .i64 aL, .int .i64 aM, s_.1, .int .i64 aO, .bool aP, .bool aQ]), (73, .int .i64 a5), (74, errW s_.2.1 none)]) (fun s_ w' => (w'.cell? ⟨a, 0, none⟩ = some (.int .i64 ae) ∧ w'.cell? ⟨a, 1, none⟩ = some (.int .i64 af) ∧ w'.cell? ⟨a, 2, none⟩ = some (.slice ay Y.length az) ∧ w'.cell? ⟨a, 3, none⟩ = some (.int .i64 ag) ∧ w'.cell? ⟨a, 4, none⟩ = some (.bool ah) ∧ w'.cell? ⟨a, 5, none⟩ = some (.bool ai)) ∧ (Kd.V k44 44 w' w.heap.size (fun k_ => k_ ≠ x ∧ k_ ≠ l ∧ k_ ≠ a ∧ k_ ≠ s_.2.2) (.slice aH W.length aE) W) ∧ (Kd.V k184 184 w' w.heap.size (fun k_ => k_ ≠ x ∧ k_ ≠ l ∧ k_ ≠ a ∧ k_ ≠ s_.2.2) bo bi) ∧ (Kd.V k44 44 w' w.heap.size (fun k_ => k_ ≠ x ∧ k_ ≠ l ∧ k_ ≠ a ∧ k_ ≠ s_.2.2) (.slice ay Y.length az) Y) ∧ (Kd.V k184 184 w' w.heap.size (fun k_ => k_ ≠ x ∧ k_ ≠ l ∧ k_ ≠ a ∧ k_ ≠ s_.2.2) bj bn) ∧ (Kd.V k44 44 w' w.heap.size (fun k_ => k_ ≠ x ∧ k_ ≠ l ∧ k_ ≠ a ∧ k_ ≠ s_.2.2) s_.1 aN) ∧ (Kd.V k184 184 w' w.heap.size (fun k_ => k_ ≠ x ∧ k_ ≠ l ∧ k_ ≠ a ∧ k_ ≠ s_.2.2) s_.2.1 bU) ∧ (w'.heap[x]? = some (.cells #[.int .i64 M, .int .i64 O, .slice aJ D.length aK, .int .i64 Q, .bool R, .bool T] 24 (0, 0))) ∧ (w'.heap[l]? = some (.cells #[.int .i64 an, .int .i64 ao, .slice aH W.length aE, .int .i64 ap, .bool aq, .bool ar] 24 (0, 0))) ∧ (w'.heap[a]? = some (.cells #[.int .i64 ae, .int .i64 af, .slice ay Y.length az, .int .i64 ag, .bool ah, .bool ai] 24 (0, 0))) ∧ (w'.heap[s_.2.2]? = some (.cells #[.int .i64 0, .int .i64 0, .slice none 0 0, .int .i64 0, .bool false, .bool false] 24 (0, 0))) ∧ (w.heap.size ≤ s_.2.2) ∧ (w.heap.size ≤ s_.2.2) ∧ (x ≠ s_.2.2) ∧ (s_.2.2 ≠ x) ∧ (l ≠ s_.2.2) ∧ (s_.2.2 ≠ l) ∧ (a ≠ s_.2.2) ∧ (s_.2.2 ≠ a) ∧ (Below w.heap.size w w')) ?_ ?_
            rotate_left
            ·intro hCont
             refine two_ (i := 5) (j := 10) (Ni := some 71) (Nj := some 17) (bv 14 63) (bv 14 1055) rfl rfl rfl rfl (two_of HT_.out (by kernel_rfl)) (by decide) (by decide) (fun K hK => ?_) (fun K hK => ?_)
             ·skip
              refine goes_ Tryd.func24 (by kernel_rfl) rfl #[.agg #[.int .i64 ae, .int .i64 af, .slice ay Y.length az, .int .i64 ag, .bool ah, .bool ai], .int .i64 a4, .slice cY ba.length c0] (by rfl) rfl rfl ag_ ?_
              with_reducible refine (paint_All.calls aB ae af (fun k_ => (k_ ≠ x ∧ (k_ ≠ l ∧ k_ ≠ a))) _ _ Y ag ah ai a4 _ _ ba aL aM aN aO aP aQ a5 none bU _ ?side1 ?side2 ?side3 dr.out).mono ?_
              (case side1 => exact L.out)
              (case side2 => repeat (first | exact (Kd.C_below bO.out HB.out) | (with_reducible apply pC)))
              (case side3 => exact ci.out)
              rintro e fW ⟨bK, bL, rfl, a0, a2, hb⟩
              refine ⟨_, rfl, ?_⟩
              have E := Z (vb A.out hb)
              have F := Z (vb B.out hb)
              have I := Z (vb L.out hb)
              have J := Z (vb U.out hb)
              have X := Z (Kd.V_lower (Kd.V_mono (ok' := fun k_ => k_ ≠ x ∧ k_ ≠ l ∧ k_ ≠ a) a0 (fun k_ hk_ => hk_.elim (fun hs_ => ⟨hs_.1, hs_.2.1, hs_.2.2⟩) (fun hn_ => ⟨(fb b.out k_ hn_), (fb y.out k_ hn_), (fb u.out k_ hn_)⟩))) (below_size bl_))
              have aa := Z (Kd.V_lower (Kd.V_mono (ok' := fun k_ => k_ ≠ x ∧ k_ ≠ l ∧ k_ ≠ a) a2 (fun k_ hk_ => hk_.elim (fun hs_ => ⟨hs_.1, hs_.2.1, hs_.2.2⟩) (fun hn_ => ⟨(fb b.out k_ hn_), (fb y.out k_ hn_), (fb u.out k_ hn_)⟩))) (below_size bl_))
              have ab := Z (kb b.out hb)
              have ad := Z (kb y.out hb)
              have aC := Z (kb u.out hb)
              have aI := Z (below_step bl_ hb)
              clear A
              clear B
              clear L
              clear U
              clear b
              clear y
              clear u
              clear HB
              have A := E
              have B := F
              have L := I
              have U := J
              have aT := X
              have aZ := aa
              have b := ab
              have y := ad
              have u := aC
              have HB := aI
              clear E F I J X aa ab ad aC aI
              (try clear hb)
              (try clear bc)
              (try clear hk)
              (try clear hi)
              (try clear a0)
              (try clear a2)
              (try simp only [errW_none, errW_some])
              refine hK.out _ _ ⟨(blk_cell u.out 0).trans rfl, (blk_cell u.out 1).trans rfl, (blk_cell u.out 2).trans rfl, (blk_cell u.out 3).trans rfl, (blk_cell u.out 4).trans rfl, (blk_cell u.out 5).trans rfl⟩ (fun hHeld => ?_)
              clear hK K
              refine norm_ (a' := ?_) ?_ ?_
              rotate_left
              ·show Act.put _ (some 71) _ = _
               simp only [Act.put, sA, sB, sC, i64_w, i32_w]
               rfl
              refine pure_ (i := 6) (N := some 65) (v := ?_) (a' := ?_) (bv 14 127) rfl rfl (any_of HT_.out (by kernel_rfl)) (fun _ _ _ h => h) (Or.inl ⟨by rfl, ?_⟩) ?_ ?_
              rotate_left
              ·intro w'
               go_simp
               with_reducible rfl
              rotate_left
              ·simp only [Act.put, sA, sB, sC, i64_w, i32_w]
               rfl
              refine pure_ (i := 7) (N := some 72) (v := ?_) (a' := ?_) (bv 14 255) rfl rfl (any_of HT_.out (by kernel_rfl)) (fun _ _ _ h => h) (Or.inl ⟨by rfl, ?_⟩) ?_ ?_
              rotate_left
              ·intro w'
               go_simp
               with_reducible rfl
              rotate_left
              ·simp only [Act.put, sA, sB, sC, i64_w, i32_w]
               rfl
              refine pure_ (i := 8) (N := some 73) (v := ?_) (a' := ?_) (bv 14 511) rfl rfl (any_of HT_.out (by kernel_rfl)) (fun _ _ _ h => h) (Or.inl ⟨by rfl, ?_⟩) ?_ ?_
              rotate_left
              ·intro w'
               go_simp
               with_reducible rfl
              rotate_left
              ·simp only [Act.put, sA, sB, sC, i64_w, i32_w]
               rfl
              refine pure_ (i := 9) (N := some 74) (v := ?_) (a' := ?_) (bv 14 1023) rfl rfl (any_of HT_.out (by kernel_rfl)) (fun _ _ _ h => h) (Or.inl ⟨by rfl, ?_⟩) ?_ ?_
              rotate_left
              ·intro w'
               go_simp
               with_reducible rfl
              rotate_left
              ·simp only [Act.put, sA, sB, sC, i64_w, i32_w]
               rfl
              refine one_ (i := 10) (N := some 17) (bv 14 2047) rfl rfl (one_of HT_.out (by kernel_rfl)) (by decide) (fun K hK => ?_)
              refine box_step ?hg (N := 17) ?hd (cs := #[.int .i64 0, .int .i64 0, .slice none 0 0, .int .i64 0, .bool false, .bool false]) (t := 24) ?hr ?_; (case hd => rfl); (case hg => rfl); (case hr => first | (go_simp; done) | (go_simp; rfl))
              intro d hg fX hbox hb
              have E := Z (ve A.out hg hb)
              have F := Z (ve B.out hg hb)
              have I := Z (ve L.out hg hb)
              have J := Z (ve U.out hg hb)
              have X := Z (ve aT.out hg hb)
              have aa := Z (ve aZ.out hg hb)
              have ab := Z (kb b.out hb)
              have ad := Z (kb y.out hb)
              have aC := Z (kb u.out hb)
              have aI := Z (below_step bl_ hb)
              have aD := Z (hbox)
              have aR := Z (ln_ hg : w.heap.size ≤ d)
              have aU := Z (ln_ hg : w.heap.size ≤ d)
              have aV := Z (nl b.out hg)
              have be := Z (ng b.out hg)
              have bf := Z (nl y.out hg)
              have bg := Z (ng y.out hg)
              have bH := Z (nl u.out hg)
              have bI := Z (ng u.out hg)
              clear A
              clear B
              clear L
              clear U
              clear aT
              clear aZ
              clear b
              clear y
              clear u
              clear HB
              have A := E
              have B := F
              have L := I
              have U := J
              have aT := X
              have aZ := aa
              have b := ab
              have y := ad
              have u := aC
              have HB := aI
              have ac := aD
              have bx := aR
              have bw := aU
              have aj := aV
              have av := be
              have al := bf
              have aw := bg
              have q := bH
              have ax := bI
              clear E F I J X aa ab ad aC aI aD aR aU aV be bf bg bH bI
              clear hb hbox hg
              refine hK.out _ _ ⟨(blk_cell u.out 0).trans rfl, (blk_cell u.out 1).trans rfl, (blk_cell u.out 2).trans rfl, (blk_cell u.out 3).trans rfl, (blk_cell u.out 4).trans rfl, (blk_cell u.out 5).trans rfl⟩ (fun hHeld => ?_)
              clear hK K
              refine norm_ (a' := ?_) ?_ ?_
              rotate_left
              ·show Act.put _ (some 17) _ = _
               simp only [Act.put, sA, sB, sC, i64_w, i32_w]
               rfl
              exact norm_ (by simp only [putAll, Act.put, sA, sB, sC, errW_none, errW_some]) (hCont (bK, bL, d) _ ⟨hHeld, (by (with_reducible repeat apply pV); exact Kd.V_mono A.out (fun _ hk => ⟨hk.1.1, ⟨hk.1.2.1, ⟨hk.1.2.2, hk.2⟩⟩⟩)), (by (with_reducible repeat apply pV); exact Kd.V_mono B.out (fun _ hk => ⟨hk.1.1, ⟨hk.1.2.1, ⟨hk.1.2.2, hk.2⟩⟩⟩)), (by (with_reducible repeat apply pV); exact Kd.V_mono L.out (fun _ hk => ⟨hk.1.1, ⟨hk.1.2.1, ⟨hk.1.2.2, hk.2⟩⟩⟩)), (by (with_reducible repeat apply pV); exact Kd.V_mono U.out (fun _ hk => ⟨hk.1.1, ⟨hk.1.2.1, ⟨hk.1.2.2, hk.2⟩⟩⟩)), (by (with_reducible repeat apply pV); exact Kd.V_mono aT.out (fun _ hk => ⟨hk.1.1, ⟨hk.1.2.1, ⟨hk.1.2.2, hk.2⟩⟩⟩)), (by (with_reducible repeat apply pV); exact Kd.V_mono aZ.out (fun _ hk => ⟨hk.1.1, ⟨hk.1.2.1, ⟨hk.1.2.2, hk.2⟩⟩⟩)), (vK b.out), (vK y.out), (vK u.out), (vK ac.out), bx.out, bw.out, aj.out, av.out, al.out, aw.out, q.out, ax.out, bl_⟩)
             ·skip
              refine box_step ?hg (N := 17) ?hd (cs := #[.int .i64 0, .int .i64 0, .slice none 0 0, .int .i64 0, .bool false, .bool false]) (t := 24) ?hr ?_; (case hd => rfl); (case hg => rfl); (case hr => first | (go_simp; done) | (go_simp; rfl))
              intro d hg fW hbox hb
              have E := Z (ve A.out hg hb)
              have F := Z (ve B.out hg hb)
              have I := Z (ve L.out hg hb)
              have J := Z (ve U.out hg hb)
              have X := Z (kb b.out hb)
              have aa := Z (kb y.out hb)
              have ab := Z (kb u.out hb)
              have ad := Z (below_step bl_ hb)
              have aC := Z (hbox)
              have aI := Z (ln_ hg : w.heap.size ≤ d)
              have aD := Z (ln_ hg : w.heap.size ≤ d)
              have aR := Z (nl b.out hg)
              have aU := Z (ng b.out hg)
              have aV := Z (nl y.out hg)
              have be := Z (ng y.out hg)
              have bf := Z (nl u.out hg)
              have bg := Z (ng u.out hg)
              clear A
              clear B
              clear L
              clear U
              clear b
              clear y
              clear u
              clear HB
              have A := E
              have B := F
              have L := I
              have U := J
              have b := X
              have y := aa
              have u := ab
              have HB := ad
              have ac := aC
              have bx := aI
              have bw := aD
              have aj := aR
              have av := aU
              have al := aV
              have aw := be
              have q := bf
              have ax := bg
              clear E F I J X aa ab ad aC aI aD aR aU aV be bf bg
              clear hb hbox hg
              refine hK.out _ _ ⟨(blk_cell u.out 0).trans rfl, (blk_cell u.out 1).trans rfl, (blk_cell u.out 2).trans rfl, (blk_cell u.out 3).trans rfl, (blk_cell u.out 4).trans rfl, (blk_cell u.out 5).trans rfl⟩ (fun hHeld => ?_)
              clear hK K
              refine norm_ (a' := ?_) ?_ ?_
              rotate_left
              ·show Act.put _ (some 17) _ = _
               simp only [Act.put, sA, sB, sC, i64_w, i32_w]
               rfl
              refine one_ (i := 5) (N := some 71) (bv 14 1087) rfl rfl (one_of HT_.out (by kernel_rfl)) (by decide) (fun K hK => ?_)
              refine goes_ Tryd.func24 (by kernel_rfl) rfl #[.agg #[.int .i64 ae, .int .i64 af, .slice ay Y.length az, .int .i64 ag, .bool ah, .bool ai], .int .i64 a4, .slice cY ba.length c0] (by rfl) rfl rfl ag_ ?_
              with_reducible refine (paint_All.calls aB ae af (fun k_ => ((k_ ≠ x ∧ (k_ ≠ l ∧ k_ ≠ a)) ∧ k_ ≠ d)) _ _ Y ag ah ai a4 _ _ ba aL aM aN aO aP aQ a5 none bU _ ?side1 ?side2 ?side3 dr.out).mono ?_
              (case side1 => exact L.out)
              (case side2 => repeat (first | exact (Kd.C_below bO.out HB.out) | (with_reducible apply pC)))
              (case side3 => exact ci.out)
              rintro e fX ⟨bK, bL, rfl, a0, a2, hb⟩
              refine ⟨_, rfl, ?_⟩
              have E := Z (vb A.out hb)
              have F := Z (vb B.out hb)
              have I := Z (vb L.out hb)
              have J := Z (vb U.out hb)
              have X := Z (Kd.V_lower (Kd.V_mono (ok' := fun k_ => k_ ≠ x ∧ k_ ≠ l ∧ k_ ≠ a ∧ k_ ≠ d) a0 (fun k_ hk_ => hk_.elim (fun hs_ => ⟨hs_.1.1, hs_.1.2.1, hs_.1.2.2, hs_.2⟩) (fun hn_ => ⟨(fb b.out k_ hn_), (fb y.out k_ hn_), (fb u.out k_ hn_), (fb ac.out k_ hn_)⟩))) (below_size bl_))
              have aa := Z (Kd.V_lower (Kd.V_mono (ok' := fun k_ => k_ ≠ x ∧ k_ ≠ l ∧ k_ ≠ a ∧ k_ ≠ d) a2 (fun k_ hk_ => hk_.elim (fun hs_ => ⟨hs_.1.1, hs_.1.2.1, hs_.1.2.2, hs_.2⟩) (fun hn_ => ⟨(fb b.out k_ hn_), (fb y.out k_ hn_), (fb u.out k_ hn_), (fb ac.out k_ hn_)⟩))) (below_size bl_))
              have ab := Z (kb b.out hb)
              have ad := Z (kb y.out hb)
              have aC := Z (kb u.out hb)
              have aI := Z (kb ac.out hb)
              have aD := Z (below_step bl_ hb)
              clear A
              clear B
              clear L
              clear U
              clear b
              clear y
              clear u
              clear ac
              clear HB
              have A := E
              have B := F
              have L := I
              have U := J
              have aT := X
              have aZ := aa
              have b := ab
              have y := ad
              have u := aC
              have ac := aI
              have HB := aD
              clear E F I J X aa ab ad aC aI aD
              (try clear hb)
              (try clear bc)
              (try clear hk)
              (try clear hi)
              (try clear a0)
              (try clear a2)
              (try simp only [errW_none, errW_some])
              refine hK.out _ _ ⟨(blk_cell u.out 0).trans rfl, (blk_cell u.out 1).trans rfl, (blk_cell u.out 2).trans rfl, (blk_cell u.out 3).trans rfl, (blk_cell u.out 4).trans rfl, (blk_cell u.out 5).trans rfl⟩ (fun hHeld => ?_)
              clear hK K
              refine norm_ (a' := ?_) ?_ ?_
              rotate_left
              ·show Act.put _ (some 71) _ = _
               simp only [Act.put, sA, sB, sC, i64_w, i32_w]
               rfl
              refine pure_ (i := 6) (N := some 65) (v := ?_) (a' := ?_) (bv 14 1151) rfl rfl (any_of HT_.out (by kernel_rfl)) (fun _ _ _ h => h) (Or.inl ⟨by rfl, ?_⟩) ?_ ?_
              rotate_left
              ·intro w'
               go_simp
               with_reducible rfl
              rotate_left
              ·simp only [Act.put, sA, sB, sC, i64_w, i32_w]
               rfl
              refine pure_ (i := 7) (N := some 72) (v := ?_) (a' := ?_) (bv 14 1279) rfl rfl (any_of HT_.out (by kernel_rfl)) (fun _ _ _ h => h) (Or.inl ⟨by rfl, ?_⟩) ?_ ?_
              rotate_left
              ·intro w'
               go_simp
               with_reducible rfl
              rotate_left
              ·simp only [Act.put, sA, sB, sC, i64_w, i32_w]
               rfl
              refine pure_ (i := 8) (N := some 73) (v := ?_) (a' := ?_) (bv 14 1535) rfl rfl (any_of HT_.out (by kernel_rfl)) (fun _ _ _ h => h) (Or.inl ⟨by rfl, ?_⟩) ?_ ?_
              rotate_left
              ·intro w'
               go_simp
               with_reducible rfl
              rotate_left
              ·simp only [Act.put, sA, sB, sC, i64_w, i32_w]
               rfl
              refine pure_ (i := 9) (N := some 74) (v := ?_) (a' := ?_) (bv 14 2047) rfl rfl (any_of HT_.out (by kernel_rfl)) (fun _ _ _ h => h) (Or.inl ⟨by rfl, ?_⟩) ?_ ?_
              rotate_left
              ·intro w'
               go_simp
               with_reducible rfl
              rotate_left
              ·simp only [Act.put, sA, sB, sC, i64_w, i32_w]
               rfl
              exact norm_ (by simp only [putAll, Act.put, sA, sB, sC, errW_none, errW_some]) (hCont (bK, bL, d) _ ⟨hHeld, (by (with_reducible repeat apply pV); exact Kd.V_mono A.out (fun _ hk => ⟨hk.1.1, ⟨hk.1.2.1, ⟨hk.1.2.2, hk.2⟩⟩⟩)), (by (with_reducible repeat apply pV); exact Kd.V_mono B.out (fun _ hk => ⟨hk.1.1, ⟨hk.1.2.1, ⟨hk.1.2.2, hk.2⟩⟩⟩)), (by (with_reducible repeat apply pV); exact Kd.V_mono L.out (fun _ hk => ⟨hk.1.1, ⟨hk.1.2.1, ⟨hk.1.2.2, hk.2⟩⟩⟩)), (by (with_reducible repeat apply pV); exact Kd.V_mono U.out (fun _ hk => ⟨hk.1.1, ⟨hk.1.2.1, ⟨hk.1.2.2, hk.2⟩⟩⟩)), (vV aT.out), (vV aZ.out), (vK b.out), (vK y.out), (vK u.out), (vK ac.out), bx.out, bw.out, aj.out, av.out, al.out, aw.out, q.out, ax.out, bl_⟩)
            rintro ⟨bK, bL, d⟩ aS ⟨hS_, b3, b4, b5, b6, b7, b8, b9, ca, cb, cc, bC, bD, bE, bF, da, db, dc, dd, de⟩
            have E : Aside0 (Kd.V k44 44 aS w.heap.size (fun k_ => k_ ≠ x ∧ k_ ≠ l ∧ k_ ≠ a ∧ k_ ≠ d) (.slice aH W.length aE) W) := ⟨b3⟩
            have F : Aside0 (Kd.V k184 184 aS w.heap.size (fun k_ => k_ ≠ x ∧ k_ ≠ l ∧ k_ ≠ a ∧ k_ ≠ d) bo bi) := ⟨b4⟩
            have I : Aside0 (Kd.V k44 44 aS w.heap.size (fun k_ => k_ ≠ x ∧ k_ ≠ l ∧ k_ ≠ a ∧ k_ ≠ d) (.slice ay Y.length az) Y) := ⟨b5⟩
            have J : Aside0 (Kd.V k184 184 aS w.heap.size (fun k_ => k_ ≠ x ∧ k_ ≠ l ∧ k_ ≠ a ∧ k_ ≠ d) bj bn) := ⟨b6⟩
            have X : Aside0 (Kd.V k44 44 aS w.heap.size (fun k_ => k_ ≠ x ∧ k_ ≠ l ∧ k_ ≠ a ∧ k_ ≠ d) bK aN) := ⟨b7⟩
            have aa : Aside0 (Kd.V k184 184 aS w.heap.size (fun k_ => k_ ≠ x ∧ k_ ≠ l ∧ k_ ≠ a ∧ k_ ≠ d) bL bU) := ⟨b8⟩
            have ab : Aside0 (aS.heap[x]? = some (.cells #[.int .i64 M, .int .i64 O, .slice aJ D.length aK, .int .i64 Q, .bool R, .bool T] 24 (0, 0))) := ⟨b9⟩
            have ad : Aside0 (aS.heap[l]? = some (.cells #[.int .i64 an, .int .i64 ao, .slice aH W.length aE, .int .i64 ap, .bool aq, .bool ar] 24 (0, 0))) := ⟨ca⟩
            have aC : Aside0 (aS.heap[a]? = some (.cells #[.int .i64 ae, .int .i64 af, .slice ay Y.length az, .int .i64 ag, .bool ah, .bool ai] 24 (0, 0))) := ⟨cb⟩
            have aI : Aside0 (aS.heap[d]? = some (.cells #[.int .i64 0, .int .i64 0, .slice none 0 0, .int .i64 0, .bool false, .bool false] 24 (0, 0))) := ⟨cc⟩
            have aD : Aside0 (w.heap.size ≤ d) := ⟨bC⟩
            have aR : Aside0 (w.heap.size ≤ d) := ⟨bD⟩
            have aU : Aside0 (x ≠ d) := ⟨bE⟩
            have aV : Aside0 (d ≠ x) := ⟨bF⟩
            have be : Aside0 (l ≠ d) := ⟨da⟩
            have bf : Aside0 (d ≠ l) := ⟨db⟩
            have bg : Aside0 (a ≠ d) := ⟨dc⟩
            have bH : Aside0 (d ≠ a) := ⟨dd⟩
            have bI : Aside0 (Below w.heap.size w aS) := ⟨de⟩
            clear A
            clear B
            clear L
            clear U
            clear b
            clear y
            clear u
            clear HB
            clear b3 b4 b5 b6 b7 b8 b9 ca cb cc bC bD bE bF da db dc dd de
            have A := E
            have B := F
            have L := I
            have U := J
            have aT := X
            have aZ := aa
            have b := ab
            have y := ad
            have u := aC
            have ac := aI
            have bx := aD
            have bw := aR
            have aj := aU
            have av := aV
            have al := be
            have aw := bf
            have q := bg
            have ax := bH
            have HB := bI
            clear E F I J X aa ab ad aC aI aD aR aU aV be bf bg bH bI
            have hHeld : aS.cell? ⟨a, 0, none⟩ = some (.int .i64 ae) ∧ aS.cell? ⟨a, 1, none⟩ = some (.int .i64 af) ∧ aS.cell? ⟨a, 2, none⟩ = some (.slice ay Y.length az) ∧ aS.cell? ⟨a, 3, none⟩ = some (.int .i64 ag) ∧ aS.cell? ⟨a, 4, none⟩ = some (.bool ah) ∧ aS.cell? ⟨a, 5, none⟩ = some (.bool ai) := hS_
            obtain ⟨bb, a9, c4⟩ := Kd.V_slice aT.out
            (first | subst c4 | (injection c4 with b1 c6 b2; have c7 := b1.symm; have c9 := b2.symm; clear b1 c6 b2; subst c7; subst c9))
            refine norm_ (a' := ?_) ?_ ?_
            rotate_left
            ·simp only [putAll, Act.put, sA, sB, sC]
             rfl
            refine one_ (i := 11) (N := none) (bv 14 4095) rfl rfl (one_of HT_.out (by kernel_rfl)) (by decide) (fun K hK => ?_)
            have gW : aS.cell? ⟨d, 0, none⟩ = some (.int .i64 0) := (blk_cell ac.out 0).trans rfl
            have gs := blk_frozen ac.out 0
            have fu := aj.out
            have fv := al.out
            have fw := q.out
            have eZ := av.out
            have e0 := aw.out
            have e1 := ax.out
            have gX : aS.cell? ⟨d, 1, none⟩ = some (.int .i64 0) := (blk_cell ac.out 1).trans rfl
            have gt := blk_frozen ac.out 1
            have fx := aj.out
            have fy := al.out
            have fz := q.out
            have e2 := av.out
            have e3 := aw.out
            have e4 := ax.out
            have gY : aS.cell? ⟨d, 2, none⟩ = some (.slice none 0 0) := (blk_cell ac.out 2).trans rfl
            have gu := blk_frozen ac.out 2
            have fA := aj.out
            have fB := al.out
            have fC := q.out
            have e5 := av.out
            have e6 := aw.out
            have e7 := ax.out
            have gZ : aS.cell? ⟨d, 3, none⟩ = some (.int .i64 0) := (blk_cell ac.out 3).trans rfl
            have gv := blk_frozen ac.out 3
            have fD := aj.out
            have fE := al.out
            have fF := q.out
            have e8 := av.out
            have e9 := aw.out
            have fa := ax.out
            have g0 : aS.cell? ⟨d, 4, none⟩ = some (.bool false) := (blk_cell ac.out 4).trans rfl
            have gw := blk_frozen ac.out 4
            have fG := aj.out
            have fH := al.out
            have fI := q.out
            have fc := av.out
            have fd := aw.out
            have fe := ax.out
            have g1 : aS.cell? ⟨d, 5, none⟩ = some (.bool false) := (blk_cell ac.out 5).trans rfl
            have gx := blk_frozen ac.out 5
            have fJ := aj.out
            have fK := al.out
            have fL := q.out
            have ff := av.out
            have fg := aw.out
            have fh := ax.out
            refine skip_ (w1 := ?_) (by rfl) rfl ?_ ?_
            rotate_left
            ·go_simp
             rfl
            refine hK.out _ _ ⟨((cell_far (p := ⟨d, _, none⟩) q.out _).trans (((cell_far (p := ⟨d, _, none⟩) q.out _).trans (((cell_far (p := ⟨d, _, none⟩) q.out _).trans (((cell_far (p := ⟨d, _, none⟩) q.out _).trans (((cell_far (p := ⟨d, _, none⟩) q.out _).trans (((cell_far (p := ⟨d, _, none⟩) q.out _).trans (hHeld.1)))))))))))), ((cell_far (p := ⟨d, _, none⟩) q.out _).trans (((cell_far (p := ⟨d, _, none⟩) q.out _).trans (((cell_far (p := ⟨d, _, none⟩) q.out _).trans (((cell_far (p := ⟨d, _, none⟩) q.out _).trans (((cell_far (p := ⟨d, _, none⟩) q.out _).trans (((cell_far (p := ⟨d, _, none⟩) q.out _).trans (hHeld.2.1)))))))))))), ((cell_far (p := ⟨d, _, none⟩) q.out _).trans (((cell_far (p := ⟨d, _, none⟩) q.out _).trans (((cell_far (p := ⟨d, _, none⟩) q.out _).trans (((cell_far (p := ⟨d, _, none⟩) q.out _).trans (((cell_far (p := ⟨d, _, none⟩) q.out _).trans (((cell_far (p := ⟨d, _, none⟩) q.out _).trans (hHeld.2.2.1)))))))))))), ((cell_far (p := ⟨d, _, none⟩) q.out _).trans (((cell_far (p := ⟨d, _, none⟩) q.out _).trans (((cell_far (p := ⟨d, _, none⟩) q.out _).trans (((cell_far (p := ⟨d, _, none⟩) q.out _).trans (((cell_far (p := ⟨d, _, none⟩) q.out _).trans (((cell_far (p := ⟨d, _, none⟩) q.out _).trans (hHeld.2.2.2.1)))))))))))), ((cell_far (p := ⟨d, _, none⟩) q.out _).trans (((cell_far (p := ⟨d, _, none⟩) q.out _).trans (((cell_far (p := ⟨d, _, none⟩) q.out _).trans (((cell_far (p := ⟨d, _, none⟩) q.out _).trans (((cell_far (p := ⟨d, _, none⟩) q.out _).trans (((cell_far (p := ⟨d, _, none⟩) q.out _).trans (hHeld.2.2.2.2.1)))))))))))), ((cell_far (p := ⟨d, _, none⟩) q.out _).trans (((cell_far (p := ⟨d, _, none⟩) q.out _).trans (((cell_far (p := ⟨d, _, none⟩) q.out _).trans (((cell_far (p := ⟨d, _, none⟩) q.out _).trans (((cell_far (p := ⟨d, _, none⟩) q.out _).trans (((cell_far (p := ⟨d, _, none⟩) q.out _).trans (hHeld.2.2.2.2.2))))))))))))⟩ (fun hHeld => ?_)
            clear hK K
            refine pure_ (i := 12) (N := some 18) (v := ?_) (a' := ?_) (bv 14 8191) rfl rfl (any_of HT_.out (by kernel_rfl)) (fun _ _ _ h => h) (Or.inl ⟨by rfl, ?_⟩) ?_ ?_
            rotate_left
            ·intro w'
             go_simp
             with_reducible rfl
            rotate_left
            ·simp only [Act.put, sA, sB, sC, i64_w, i32_w]
             rfl
            refine pure_ (i := 13) (N := some 19) (v := ?_) (a' := ?_) (bv 14 16383) rfl rfl (any_of HT_.out (by kernel_rfl)) (fun _ _ _ h => h) (Or.inl ⟨by rfl, ?_⟩) ?_ ?_
            rotate_left
            ·intro w'
             go_simp
             with_reducible rfl
            rotate_left
            ·simp only [Act.put, sA, sB, sC, i64_w, i32_w]
             rfl
            refine done_ (done_of HT_.out (by kernel_rfl)) ?_
            try simp only [errW_none, errW_some]
            have gz := av.out
            have gF := aj.out
            have gA := aw.out
            have gG := al.out
            have gB := ax.out
            have gH := q.out
            obtain ⟨dP, dQ, dR, dS, dT, dU, ep, eq, er, es, et, eu⟩ := cells6 ac.out
            have gC := ak.out
            have gI := au.out
            obtain ⟨dV, dW, dX, dY, dZ, d0, ev, ew, ex, ey, ez, eA⟩ := cells6 y.out
            try go_wp2_with (first | (go_at_call 19; (with_reducible refine (shutterref10_Same.calls aB aL aM _ _ aN aO aP aQ an ao _ _ W ap aq ar aF _ ?side1 ?side2 ?side3 ?side4 fO.out).mono ?_); (case side1 => refine (Kd.V_reads' (e := 44) (base := w.heap.size) (ok := fun k_ => (k_ ≠ x ∧ (k_ ≠ l ∧ (k_ ≠ a ∧ k_ ≠ d)))) (n := aN.length) (c := a9) ?_).2.2; exact (by (with_reducible repeat apply pV); exact (Kd.V_mono (f6V d (Kd.V_mono aT.out (fun k_ hk => (⟨hk, hk.2.2.2⟩ : _ ∧ k_ ≠ d))) (fun _ hk => hk.2)) (fun _ h_ => h_.1)))); (case side2 => exact (Kd.V_reads' aT.out).2.1); (case side3 => refine (Kd.V_reads' (e := 44) (base := w.heap.size) (ok := fun k_ => (k_ ≠ x ∧ (k_ ≠ l ∧ (k_ ≠ a ∧ k_ ≠ d)))) (n := W.length) (c := aE) ?_).2.2; exact (by (with_reducible repeat apply pV); exact (Kd.V_mono (f6V d (Kd.V_mono A.out (fun k_ hk => (⟨hk, hk.2.2.2⟩ : _ ∧ k_ ≠ d))) (fun _ hk => hk.2)) (fun _ h_ => h_.1)))); (case side4 => exact (Kd.V_reads' A.out).2.1); rintro e hs ⟨rfl, hb⟩; replace A := Z (Kd.V_below (by (with_reducible repeat apply pV); exact (Kd.V_mono (f6V d (Kd.V_mono A.out (fun k_ hk => (⟨hk, hk.2.2.2⟩ : _ ∧ k_ ≠ d))) (fun _ hk => hk.2)) (fun _ h_ => h_.1))) hb); replace B := Z (Kd.V_below (by (with_reducible repeat apply pV); exact (Kd.V_mono (f6V d (Kd.V_mono B.out (fun k_ hk => (⟨hk, hk.2.2.2⟩ : _ ∧ k_ ≠ d))) (fun _ hk => hk.2)) (fun _ h_ => h_.1))) hb); replace L := Z (Kd.V_below (by (with_reducible repeat apply pV); exact (Kd.V_mono (f6V d (Kd.V_mono L.out (fun k_ hk => (⟨hk, hk.2.2.2⟩ : _ ∧ k_ ≠ d))) (fun _ hk => hk.2)) (fun _ h_ => h_.1))) hb); replace U := Z (Kd.V_below (by (with_reducible repeat apply pV); exact (Kd.V_mono (f6V d (Kd.V_mono U.out (fun k_ hk => (⟨hk, hk.2.2.2⟩ : _ ∧ k_ ≠ d))) (fun _ hk => hk.2)) (fun _ h_ => h_.1))) hb); replace aT := Z (Kd.V_below (by (with_reducible repeat apply pV); exact (Kd.V_mono (f6V d (Kd.V_mono aT.out (fun k_ hk => (⟨hk, hk.2.2.2⟩ : _ ∧ k_ ≠ d))) (fun _ hk => hk.2)) (fun _ h_ => h_.1))) hb); replace aZ := Z (Kd.V_below (by (with_reducible repeat apply pV); exact (Kd.V_mono (f6V d (Kd.V_mono aZ.out (fun k_ hk => (⟨hk, hk.2.2.2⟩ : _ ∧ k_ ≠ d))) (fun _ hk => hk.2)) (fun _ h_ => h_.1))) hb); replace b := Z (blk_below (g := x) (o := .cells #[.int .i64 M, .int .i64 O, .slice aJ D.length aK, .int .i64 Q, .bool R, .bool T] 24 (0, 0)) (by (with_reducible repeat apply pK); exact blk_off b.out aj.out off2_) hb); replace y := Z (blk_below (g := l) (o := .cells #[.int .i64 an, .int .i64 ao, .slice aH W.length aE, .int .i64 ap, .bool aq, .bool ar] 24 (0, 0)) (by (with_reducible repeat apply pK); exact blk_off y.out al.out off2_) hb); replace u := Z (blk_below (g := a) (o := .cells #[.int .i64 ae, .int .i64 af, .slice ay Y.length az, .int .i64 ag, .bool ah, .bool ai] 24 (0, 0)) (by (with_reducible repeat apply pK); exact blk_off u.out q.out off2_) hb); replace ac := Z (blk_below (g := d) (o := .cells #[.int .i64 aL, .int .i64 aM, .slice bb aN.length a9, .int .i64 aO, .bool aP, .bool aQ] 24 (0, 0)) (put6 ac.out) hb); replace HB := Z (below_step bl_ hb); (try clear hb); (try clear bc); (try clear hk); (try clear hi)))
            go_ret
            exact ⟨by first | rfl | (simp [errW_none, errW_some] <;> rfl) | (simp only [← bz]; first | rfl | (simp [errW_none, errW_some] <;> rfl)) | (simp [*, errW_none, errW_some] <;> rfl), bl_⟩
           ·rw [if_neg b0] at H
            exact absurd H (by simp)
          ·have H1 : (none) = some r := by rw [if_neg (show ¬ (some dB).isNone = true by simp)] at H; exact H
           clear H
           have H := H1
           clear H1
           try simp only [errW_none, errW_some]
           exact absurd H (by simp)
         ·have H1 : (none) = some r := by rw [if_neg (show ¬ (some dA).isNone = true by simp)] at H; exact H
          clear H
          have H := H1
          clear H1
          try simp only [errW_none, errW_some]
          exact absurd H (by simp)
        ·rw [if_neg bZ] at H
         exact absurd H (by simp)
       ·rw [if_neg bY] at H
        exact absurd H (by simp)
      ·have H1 : (some true) = some r := by rw [if_neg (show ¬ (some dj).isNone = true by simp)] at H; exact H
       clear H
       have H := H1
       clear H1
       try simp only [errW_none, errW_some]
       obtain rfl := Option.some.inj H
       obtain ⟨d1, d2, d3, d4, d5, d6, eB, eC, eD, eE, eF, eG⟩ := cells6 b.out
       go_wp2_with (first | ((with_reducible refine gate_callee (f := 24) rfl ?_); refine goesL_ (some 49) rfl rfl Tryd.func24 (by kernel_rfl) rfl #[.agg #[.int .i64 M, .int .i64 O, .slice aJ D.length aK, .int .i64 Q, .bool R, .bool T], .int .i64 (Int.tmod (wrap64 (a1)) (D.length : Int)), .slice A2 l2.length c2] rfl ag_ ?_; (with_reducible refine (paint_All.calls aB M O (fun k_ => k_ < w.heap.size) _ _ D Q R T (Int.tmod (wrap64 (a1)) (D.length : Int)) _ _ l2 an ao W ap aq ar aW (some dj) bi _ ?side1 ?side2 ?side3 cT.out).mono ?_); (case side1 => exact Kd.V_mk bl.out (Kd.F_below (Kd.C_F k44_heap bm.out) bl_)); (case side2 => repeat (first | exact (Kd.C_below bW.out HB.out) | (with_reducible apply pC))); (case side3 => exact bV.out); rintro e ht ⟨dC, bo, rfl, a0, a2, hb⟩; refine ⟨_, rfl, ?_⟩; have A := Z (Kd.V_lower (Kd.V_mono (ok' := fun k_ => k_ ≠ x) a0 (fun k_ hk_ => Or.elim hk_ (fun hs_ => fun e_ => Nat.not_le.2 hs_ (by rw [e_]; exact a6.out)) (fun hn_ => (fb b.out k_ hn_)))) (below_size bl_)); have B := Z (Kd.V_lower (Kd.V_mono (ok' := fun k_ => k_ ≠ x) a2 (fun k_ hk_ => Or.elim hk_ (fun hs_ => fun e_ => Nat.not_le.2 hs_ (by rw [e_]; exact a6.out)) (fun hn_ => (fb b.out k_ hn_)))) (below_size bl_)); replace b := Z (kb b.out hb); replace HB := Z (below_step bl_ hb); (try clear hb); (try clear bc); (try clear hk); (try clear hi); (try clear a0); (try clear a2); (try simp only [errW_none, errW_some])) | ((with_reducible refine gate_dst (N := 11) rfl ?_); refine bx_ 11 24 #[.int .i64 0, .int .i64 0, .slice none 0 0, .int .i64 0, .bool false, .bool false] ?_; intro l hg hu hbox hb; replace A := Z (ve A.out hg hb); replace B := Z (ve B.out hg hb); have y := Z (hbox); have bq := Z (ln_ hg : w.heap.size ≤ l); have dn := Z (ln_ hg : w.heap.size ≤ l); replace HB := Z (below_step bl_ hb); have a7 := Z (nl b.out hg); have bd := Z (ng b.out hg); replace b := Z (kb b.out hb); clear hb hbox hg; have gD := bd.out; have gJ := a7.out; obtain ⟨d7, d8, d9, ea, eb, ec, eH, eI, eJ, eK, eL, eM⟩ := cells6 y.out; obtain ⟨gL, gP, dy⟩ := Kd.V_slice A.out; subst dy))
       go_ret
       exact ⟨er_, bl_⟩

end Go.Proofs.YtgboplhcjhlabaaDoor.P
