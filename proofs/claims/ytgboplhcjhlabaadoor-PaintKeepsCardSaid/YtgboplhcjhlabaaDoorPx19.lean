/- pp.py and press2.py (wip/tools) wrote this text. -/
import Derived.Test.YtgboplhcjhlabaaDoorPx0
import Derived.Test.YtgboplhcjhlabaaDoorPxS
import Derived.Test.YtgboplhcjhlabaaDoorPx0L
import Derived.Test.YtgboplhcjhlabaaDoorPx3
import Derived.Test.YtgboplhcjhlabaaDoorPx9L
import Derived.Test.YtgboplhcjhlabaaDoorPx10
import Derived.Test.YtgboplhcjhlabaaDoorPx12
import Derived.Test.YtgboplhcjhlabaaDoorPx13
import Derived.Test.YtgboplhcjhlabaaDoorPx17
namespace Go.Proofs.YtgboplhcjhlabaaDoor.P
open Go.RowKit Go.Proofs.YtgboplhcjhlabaaDoorW.PrintWords Go.Proofs.YtgboplhcjhlabaaDoorW.PrintLast Go.Proofs.YtgboplhcjhlabaaDoorW.PrintMore
attribute [local go_sem] max2_int min2_int max_two min_two max_three min_three max_four min_four
attribute [local go_sem] Instr.field asAgg
set_option linter.unusedVariables false
set_option linter.unusedSimpArgs false

/-! ### shutterlaw12_PaintKeeps: function 6 -/
mutual
def shutterlaw12_PaintKeeps.j0 : Nat → Int → List (S30) → Bool → Int → Int → List (S44) → Int → Bool → Bool → Option (Bool)
 | 0, _, _, _, _, _, _, _, _, _ => none
 | k + 1, n, o, m, d, e, b, g, h, i => if m = true then ((shutterlaw12_awake.f k).bind fun j => (some j)) else ((shutterref10_Copy.f d e b g h i).bind fun a => (if (b.length : Int) = 0 then (none) else ((paint_All.f k d e b g h i (Int.tmod (wrap64 (n)) (b.length : Int)) o).bind fun c => (if c.2.2.2.2.2.2.2.1.isNone = true then (shutterlaw12_PaintKeeps.l0 k 0 d e b g h i a.1 a.2.1 a.2.2.1 a.2.2.2.1 a.2.2.2.2.1 a.2.2.2.2.2 c.1 c.2.1 c.2.2.1 c.2.2.2.1 c.2.2.2.2.1 c.2.2.2.2.2.1) else ((shutterref10_Same.f k d e b g h i a.1 a.2.1 a.2.2.1 a.2.2.2.1 a.2.2.2.2.1 a.2.2.2.2.2).bind fun l => (some l))))))
def shutterlaw12_PaintKeeps.l0 : Nat → Int → Int → Int → List (S44) → Int → Bool → Bool → Int → Int → List (S44) → Int → Bool → Bool → Int → Int → List (S44) → Int → Bool → Bool → Option (Bool)
 | 0, _, _, _, _, _, _, _, _, _, _, _, _, _, _, _, _, _, _, _ => none
 | k + 1, x11, a, b, c, d, e, g, h, i, j, l, m, n, p, q, o, r, s, t => if x11 < (o.length : Int) then (if 0 ≤ x11 then (shutterlaw12_PaintKeeps.l0 k (wrap64 (x11 + 1)) a b c d e g h i j l m n p q (o.set (x11 : Int).toNat (⟨false, (⟨false, false, 0, false⟩ : S28), 7⟩ : S44)) r s t) else (none)) else ((shutterref10_Same.f k a b c d e g h i j l m n).bind fun u => (some u))
end
def shutterlaw12_PaintKeeps.f (k : Nat) (a : Int) (b : Int) (g : List (S44)) (c : Int) (d : Bool) (e : Bool) (a1 : Int) (l2 : List (S30)) : Option (Bool) := (shutterlaw12_awake.f k).bind fun h => (if h = true then ((shutterref10_Few.f k a b g c d e).bind fun i => (if i = true then ((shutterlaw12_few.f k l2).bind fun j => (shutterlaw12_PaintKeeps.j0 k a1 l2 (!j) a b g c d e)) else (shutterlaw12_PaintKeeps.j0 k a1 l2 true a b g c d e))) else (none))
theorem shutterlaw12_PaintKeeps.mono_l : ∀ k, (∀ a b c d e f g i j, LeO (shutterlaw12_PaintKeeps.j0 k a b c d e f g i j) (shutterlaw12_PaintKeeps.j0 (k + 1) a b c d e f g i j)) ∧ (∀ a b c d e f g i j x n o p q s t u v w, LeO (shutterlaw12_PaintKeeps.l0 k a b c d e f g i j x n o p q s t u v w) (shutterlaw12_PaintKeeps.l0 (k + 1) a b c d e f g i j x n o p q s t u v w))
 | 0 => ⟨fun _ _ _ _ _ _ _ _ _ r h => by simp [shutterlaw12_PaintKeeps.j0] at h, fun _ _ _ _ _ _ _ _ _ _ _ _ _ _ _ _ _ _ _ r h => by simp [shutterlaw12_PaintKeeps.l0] at h⟩
 | k + 1 => by
  obtain ⟨l, m⟩ := shutterlaw12_PaintKeeps.mono_l k
  refine ⟨?_, ?_⟩
  ·intro a b c d e f g i j
   unfold shutterlaw12_PaintKeeps.j0
   repeat' first
   | (with_reducible exact l _ _ _ _ _ _ _ _ _)
   | (with_reducible exact m _ _ _ _ _ _ _ _ _ _ _ _ _ _ _ _ _ _ _)
   | (with_reducible exact paint_All.mono _ _ _ _ _ _ _ _ _)
   | (with_reducible exact shutterlaw12_awake.mono _)
   | (with_reducible exact shutterlaw12_few.mono _ _)
   | (with_reducible exact shutterref10_Few.mono _ _ _ _ _ _ _)
   | (with_reducible exact shutterref10_Same.mono _ _ _ _ _ _ _ _ _ _ _ _ _)
   | (with_reducible exact LeO.refl _)
   | (with_reducible exact LeO.none _)
   | (with_reducible refine LeO.ite ?_ ?_)
   | (with_reducible refine LeO.bind ?_ (fun _ => ?_))
   | exact l _ _ _ _ _ _ _ _ _
   | exact m _ _ _ _ _ _ _ _ _ _ _ _ _ _ _ _ _ _ _
   | exact paint_All.mono _ _ _ _ _ _ _ _ _
   | exact shutterlaw12_awake.mono _
   | exact shutterlaw12_few.mono _ _
   | exact shutterref10_Few.mono _ _ _ _ _ _ _
   | exact shutterref10_Same.mono _ _ _ _ _ _ _ _ _ _ _ _ _
   | exact LeO.none _
   | refine LeO.ite ?_ ?_
   | refine LeO.bind ?_ (fun _ => ?_)
  ·intro a b c d e f g i j x n o p q s t u v w
   unfold shutterlaw12_PaintKeeps.l0
   repeat' first
   | (with_reducible exact l _ _ _ _ _ _ _ _ _)
   | (with_reducible exact m _ _ _ _ _ _ _ _ _ _ _ _ _ _ _ _ _ _ _)
   | (with_reducible exact paint_All.mono _ _ _ _ _ _ _ _ _)
   | (with_reducible exact shutterlaw12_awake.mono _)
   | (with_reducible exact shutterlaw12_few.mono _ _)
   | (with_reducible exact shutterref10_Few.mono _ _ _ _ _ _ _)
   | (with_reducible exact shutterref10_Same.mono _ _ _ _ _ _ _ _ _ _ _ _ _)
   | (with_reducible exact LeO.refl _)
   | (with_reducible exact LeO.none _)
   | (with_reducible refine LeO.ite ?_ ?_)
   | (with_reducible refine LeO.bind ?_ (fun _ => ?_))
   | exact l _ _ _ _ _ _ _ _ _
   | exact m _ _ _ _ _ _ _ _ _ _ _ _ _ _ _ _ _ _ _
   | exact paint_All.mono _ _ _ _ _ _ _ _ _
   | exact shutterlaw12_awake.mono _
   | exact shutterlaw12_few.mono _ _
   | exact shutterref10_Few.mono _ _ _ _ _ _ _
   | exact shutterref10_Same.mono _ _ _ _ _ _ _ _ _ _ _ _ _
   | exact LeO.none _
   | refine LeO.ite ?_ ?_
   | refine LeO.bind ?_ (fun _ => ?_)
theorem shutterlaw12_PaintKeeps.mono : ∀ a0 a1 c d a4 e g h k, LeO (shutterlaw12_PaintKeeps.f k a0 a1 c d a4 e g h) (shutterlaw12_PaintKeeps.f (k + 1) a0 a1 c d a4 e g h) := by
 intro a0 a1 c d a4 e g h k
 obtain ⟨a, b⟩ := shutterlaw12_PaintKeeps.mono_l k
 unfold shutterlaw12_PaintKeeps.f
 repeat' first
   | (with_reducible exact a _ _ _ _ _ _ _ _ _)
   | (with_reducible exact b _ _ _ _ _ _ _ _ _ _ _ _ _ _ _ _ _ _ _)
   | (with_reducible exact paint_All.mono _ _ _ _ _ _ _ _ _)
   | (with_reducible exact shutterlaw12_awake.mono _)
   | (with_reducible exact shutterlaw12_few.mono _ _)
   | (with_reducible exact shutterref10_Few.mono _ _ _ _ _ _ _)
   | (with_reducible exact shutterref10_Same.mono _ _ _ _ _ _ _ _ _ _ _ _ _)
   | (with_reducible exact LeO.refl _)
   | (with_reducible exact LeO.none _)
   | (with_reducible refine LeO.ite ?_ ?_)
   | (with_reducible refine LeO.bind ?_ (fun _ => ?_))
   | exact a _ _ _ _ _ _ _ _ _
   | exact b _ _ _ _ _ _ _ _ _ _ _ _ _ _ _ _ _ _ _
   | exact paint_All.mono _ _ _ _ _ _ _ _ _
   | exact shutterlaw12_awake.mono _
   | exact shutterlaw12_few.mono _ _
   | exact shutterref10_Few.mono _ _ _ _ _ _ _
   | exact shutterref10_Same.mono _ _ _ _ _ _ _ _ _ _ _ _ _
   | exact LeO.none _
   | refine LeO.ite ?_ ?_
   | refine LeO.bind ?_ (fun _ => ?_)
def shutterlaw12_PaintKeeps.T4 : Bool × List (List Nat × List Nat) := (true, [([], []), ([], []), ([1], [1]), ([], []), ([3], [3]), ([4], [4]), ([2, 5], [2, 5]), ([], []), ([0, 6, 7], [0, 6, 7]), ([8], [8]), ([9], [9]), ([9], [9]), ([9], [9]), ([], []), ([13, 10, 8, 0, 1, 2, 3, 4, 5, 6, 7, 8, 9, 10, 13], [10, 13]), ([11, 14, 0, 1, 2, 3, 4, 5, 6, 7, 8, 9, 10, 11, 13, 14], [11]), ([12, 15, 0, 1, 2, 3, 4, 5, 6, 7, 8, 9, 10, 11, 12, 13, 14, 15], [12])])
def shutterlaw12_PaintKeeps.B4 : List Nat := [0, 0, 2, 0, 8, 24, 62, 0, 255, 511, 1023, 1023, 1023, 0, 10239, 28671, 65535]
theorem shutterlaw12_PaintKeeps.tab4 : rtab .any (opsOf Tryd.f6 4) = shutterlaw12_PaintKeeps.T4 := by kernel_rfl
theorem shutterlaw12_PaintKeeps.bits4 : waitsOk shutterlaw12_PaintKeeps.T4.2 shutterlaw12_PaintKeeps.B4 = true := by kernel_rfl
set_option maxHeartbeats 8000000 in
set_option maxRecDepth 100000 in
theorem shutterlaw12_PaintKeeps.calls (k : Nat) (y : Int) (z : Int) (ac : Option Addr) (ad : Nat) (u : List (S44)) (A : Int) (B : Bool) (D : Bool) (a1 : Int) (A2 : Option Addr) (c2 : Nat) (l2 : List (S30)) (r : Bool) (w : World) (b5 : Kd.C k44 w ac u.length u) (b3 : u.length ≤ ad) (dn : Kd.C k30 w A2 l2.length l2) (dm : l2.length ≤ c2) (hG : LaidG w) (h : shutterlaw12_PaintKeeps.f k y z u A B D a1 l2 = some r) :
  Calls Tryd.prog 6 #[.agg #[.int .i64 y, .int .i64 z, .slice ac u.length ad, .int .i64 A, .bool B, .bool D], .int .u16 a1, .slice A2 l2.length c2] w fun e w' => e = .returned (.bool r) ∧ Below w.heap.size w w' := by
 have HG := Z hG
 clear hG
 have hB := Tryd.underlying24
 have hD := Tryd.underlying44
 have hC := Tryd.underlying34
 have hE := Tryd.underlying75
 have aI := Z b5
 have aH := Z b3
 clear b5 b3
 have bI := Z dn
 have bH := Z dm
 clear dn dm
 have HB := Z (Below.refl w.heap.size w)
 have H : ((shutterlaw12_awake.f k).bind fun bF => (if bF = true then ((shutterref10_Few.f k y z u A B D).bind fun aZ => (if aZ = true then ((shutterlaw12_few.f k l2).bind fun aG => (shutterlaw12_PaintKeeps.j0 k a1 l2 (!aG) y z u A B D)) else (shutterlaw12_PaintKeeps.j0 k a1 l2 true y z u A B D))) else (none))) = some r := h
 clear h
 have cD := Z H
 clear H
 go_enter Tryd.func6, Tryd.ntmps6
 go_upto_region 1 with (first | ((with_reducible refine gate_dst (N := 3) rfl ?_); refine bx_ 3 24 #[.int .i64 y, .int .i64 z, .slice ac u.length ad, .int .i64 A, .bool B, .bool D] ?_; intro s hg w5 hbox hb; have b := Z (hbox); have a2 := Z (ln_ hg : w.heap.size ≤ s); have gC := Z (ln_ hg : w.heap.size ≤ s); replace HB := Z (below_step bl_ hb); clear hb hbox hg))
 (try simp only [Act.put, sA, sB, sC])
 go_cut [23] (fun gv wc => ∃ (kq : Nat) (a7 : Bool), gv = .bool a7 ∧ Aside0 (shutterlaw12_PaintKeeps.j0 kq a1 l2 a7 y z u A B D = some r) ∧ Aside0 (kq ≤ k) ∧ Aside0 (wc.heap[s]? = some (.cells #[.int .i64 y, .int .i64 z, (.slice ac u.length ad), .int .i64 A, .bool B, .bool D] 24 (0, 0))) ∧ Aside0 (Below w.heap.size w wc))
 case first =>
  have H := cD.out
  clear cD
  replace H := Option.bind_eq_some_iff.mp H
  obtain ⟨bF, di, H⟩ := H
  replace H : (if bF = true then ((shutterref10_Few.f k y z u A B D).bind fun aZ => (if aZ = true then ((shutterlaw12_few.f k l2).bind fun aG => (shutterlaw12_PaintKeeps.j0 k a1 l2 (!aG) y z u A B D)) else (shutterlaw12_PaintKeeps.j0 k a1 l2 true y z u A B D))) else (none)) = some r := H
  have A6 := Z di
  clear di
  by_cases c7 : bF = true
  ·subst c7
   have H1 : ((shutterref10_Few.f k y z u A B D).bind fun aZ => (if aZ = true then ((shutterlaw12_few.f k l2).bind fun aG => (shutterlaw12_PaintKeeps.j0 k a1 l2 (!aG) y z u A B D)) else (shutterlaw12_PaintKeeps.j0 k a1 l2 true y z u A B D))) = some r := by rw [if_pos rfl] at H; exact H
   clear H
   have H := H1
   clear H1
   replace H := Option.bind_eq_some_iff.mp H
   obtain ⟨aZ, dj, H⟩ := H
   replace H : (if aZ = true then ((shutterlaw12_few.f k l2).bind fun aG => (shutterlaw12_PaintKeeps.j0 k a1 l2 (!aG) y z u A B D)) else (shutterlaw12_PaintKeeps.j0 k a1 l2 true y z u A B D)) = some r := H
   have A8 := Z dj
   clear dj
   by_cases c9 : aZ = true
   ·subst c9
    have H1 : ((shutterlaw12_few.f k l2).bind fun aG => (shutterlaw12_PaintKeeps.j0 k a1 l2 (!aG) y z u A B D)) = some r := by rw [if_pos rfl] at H; exact H
    clear H
    have H := H1
    clear H1
    replace H := Option.bind_eq_some_iff.mp H
    obtain ⟨aG, cw, H⟩ := H
    replace H : (shutterlaw12_PaintKeeps.j0 k a1 l2 (!aG) y z u A B D) = some r := H
    have ga := Z cw
    clear cw
    have H' := Z H
    clear H
    go_wp2_with (first | ((with_reducible refine gate_callee (f := 14) rfl ?_); refine goesL_ (some 12) rfl rfl Tryd.func14 (by kernel_rfl) rfl #[] rfl ag_ ?_; (with_reducible refine (shutterlaw12_awake.calls k  true _ ?sideG A6.out).mono ?_); (case sideG => exact laidG_below HG.out bl_ rfl); rintro e hI ⟨rfl, hb⟩; refine ⟨_, rfl, ?_⟩; replace b := Z (kb b.out hb); replace HB := Z (below_step bl_ hb); (try clear hb); (try clear aT); (try clear hk); (try clear hi); obtain ⟨bf, bg, bh, bi, bj, bk, br, bs, bt, bu, bw, bx⟩ := cells6 b.out) | (go_at_call 15; (with_reducible refine (shutterref10_Few.calls k y z _ _ u A B D true _ ?side1 ?side2 A8.out).mono ?_); (case side1 => repeat (first | exact (Kd.C_below aI.out HB.out) | (with_reducible apply pC))); (case side2 => exact aH.out); rintro e hJ ⟨rfl, hb⟩; replace b := Z (kb b.out hb); replace HB := Z (below_step bl_ hb); (try clear hb); (try clear aT); (try clear hk); (try clear hi)) | (go_at_call 23; (with_reducible refine (shutterlaw12_few.calls k _ _ l2 aG _ ?side1 ?side2 ga.out).mono ?_); (case side1 => repeat (first | exact (Kd.C_below bI.out HB.out) | (with_reducible apply pC))); (case side2 => exact bH.out); rintro e hL ⟨rfl, hb⟩; replace b := Z (kb b.out hb); replace HB := Z (below_step bl_ hb); (try clear hb); (try clear aT); (try clear hk); (try clear hi)))
    go_meet
    case rel => exact ⟨_, (!aG), (dn_), H', ⟨by first | omega | exact Nat.le_refl _⟩, ⟨vK b.out⟩, ⟨bl_⟩⟩
   ·replace c9 := Bool.eq_false_iff.mpr c9
    subst c9
    have H1 : (shutterlaw12_PaintKeeps.j0 k a1 l2 true y z u A B D) = some r := by rw [if_neg (show ¬ (false = true) by decide)] at H; exact H
    clear H
    have H := H1
    clear H1
    have H' := Z H
    clear H
    go_wp2_with (first | ((with_reducible refine gate_callee (f := 14) rfl ?_); refine goesL_ (some 12) rfl rfl Tryd.func14 (by kernel_rfl) rfl #[] rfl ag_ ?_; (with_reducible refine (shutterlaw12_awake.calls k  true _ ?sideG A6.out).mono ?_); (case sideG => exact laidG_below HG.out bl_ rfl); rintro e hM ⟨rfl, hb⟩; refine ⟨_, rfl, ?_⟩; replace b := Z (kb b.out hb); replace HB := Z (below_step bl_ hb); (try clear hb); (try clear aT); (try clear hk); (try clear hi); obtain ⟨bl, bm, bn, bo, bp, bq, bz, bA, bB, bC, bD, bE⟩ := cells6 b.out) | (go_at_call 15; (with_reducible refine (shutterref10_Few.calls k y z _ _ u A B D false _ ?side1 ?side2 A8.out).mono ?_); (case side1 => repeat (first | exact (Kd.C_below aI.out HB.out) | (with_reducible apply pC))); (case side2 => exact aH.out); rintro e hN ⟨rfl, hb⟩; replace b := Z (kb b.out hb); replace HB := Z (below_step bl_ hb); (try clear hb); (try clear aT); (try clear hk); (try clear hi)))
    go_meet
    case rel => exact ⟨_, (true), (dn_), H', ⟨by first | omega | exact Nat.le_refl _⟩, ⟨vK b.out⟩, ⟨bl_⟩⟩
  ·replace c7 := Bool.eq_false_iff.mpr c7
   subst c7
   have H1 : (none) = some r := by rw [if_neg (show ¬ (false = true) by decide)] at H; exact H
   clear H
   have H := H1
   clear H1
   exact absurd H (by simp)
 case rest =>
  clear cD
  try clear c1
  try clear c2
  try clear p2
  try clear c6
  try clear c7
  try clear c9
  try clear gg
  try clear bf
  try clear bg
  try clear bh
  try clear bi
  try clear bj
  try clear bk
  try clear bl
  try clear bm
  try clear bn
  try clear bo
  try clear bp
  try clear bq
  try clear br
  try clear bs
  try clear bt
  try clear bu
  try clear bw
  try clear bx
  try clear bz
  try clear bA
  try clear bB
  try clear bC
  try clear bD
  try clear bE
  obtain ⟨kq, a7, rfl, HA, dk, b, HB⟩ := hcut
  cases kq with
  | zero => exact absurd HA.out (by simp [shutterlaw12_PaintKeeps.j0])
  | succ aD =>
   have H := HA.out
   clear HA
   simp only [shutterlaw12_PaintKeeps.j0] at H
   by_cases bJ : a7 = true
   ·subst bJ
    have H1 : ((shutterlaw12_awake.f aD).bind fun bG => (some bG)) = some r := by rw [if_pos rfl] at H; exact H
    clear H
    have H := H1
    clear H1
    replace H := Option.bind_eq_some_iff.mp H
    obtain ⟨bG, cx, H⟩ := H
    replace H : (some bG) = some r := H
    have gb := Z cx
    clear cx
    obtain rfl := Option.some.inj H
    go_wp2_with (first | ((with_reducible refine gate_callee (f := 14) rfl ?_); refine goesL_ (some 24) rfl rfl Tryd.func14 (by kernel_rfl) rfl #[] rfl ag_ ?_; (with_reducible refine (shutterlaw12_awake.calls aD  bG _ ?sideG gb.out).mono ?_); (case sideG => exact laidG_below HG.out bl_ rfl); rintro e hO ⟨rfl, hb⟩; refine ⟨_, rfl, ?_⟩; replace b := Z (kb b.out hb); replace HB := Z (below_step bl_ hb); (try clear hb); (try clear aT); (try clear hk); (try clear hi)))
    go_ret
    exact ⟨er_, bl_⟩
   ·replace bJ := Bool.eq_false_iff.mpr bJ
    subst bJ
    have H1 : ((shutterref10_Copy.f y z u A B D).bind fun az => (if (u.length : Int) = 0 then (none) else ((paint_All.f aD y z u A B D (Int.tmod (wrap64 (a1)) (u.length : Int)) l2).bind fun aq => (if aq.2.2.2.2.2.2.2.1.isNone = true then (shutterlaw12_PaintKeeps.l0 aD 0 y z u A B D az.1 az.2.1 az.2.2.1 az.2.2.2.1 az.2.2.2.2.1 az.2.2.2.2.2 aq.1 aq.2.1 aq.2.2.1 aq.2.2.2.1 aq.2.2.2.2.1 aq.2.2.2.2.2.1) else ((shutterref10_Same.f aD y z u A B D az.1 az.2.1 az.2.2.1 az.2.2.2.1 az.2.2.2.2.1 az.2.2.2.2.2).bind fun aS => (some aS)))))) = some r := by rw [if_neg (show ¬ (false = true) by decide)] at H; exact H
    clear H
    have H := H1
    clear H1
    replace H := Option.bind_eq_some_iff.mp H
    obtain ⟨⟨T, U, I, W, X, Y⟩, cy, H⟩ := H
    replace H : (if (u.length : Int) = 0 then (none) else ((paint_All.f aD y z u A B D (Int.tmod (wrap64 (a1)) (u.length : Int)) l2).bind fun aq => (if aq.2.2.2.2.2.2.2.1.isNone = true then (shutterlaw12_PaintKeeps.l0 aD 0 y z u A B D T U I W X Y aq.1 aq.2.1 aq.2.2.1 aq.2.2.2.1 aq.2.2.2.2.1 aq.2.2.2.2.2.1) else ((shutterref10_Same.f aD y z u A B D T U I W X Y).bind fun aS => (some aS))))) = some r := H
    have dh := Z cy
    clear cy
    by_cases bd : (u.length : Int) = 0
    ·rw [if_pos bd] at H
     exact absurd H (by simp)
    ·rw [if_neg bd] at H
     have dc : ((u.length : Int) == 0) = false := beq_eq_false_iff_ne.mpr bd
     have dd : ((u.length : Int) != 0) = true := bne_iff_ne.mpr bd
     have de : ¬ (u = []) := fun h_ => bd (by rw [h_]; rfl)
     replace H := Option.bind_eq_some_iff.mp H
     obtain ⟨⟨ai, aj, au, ak, al, am, aR, c4, a0⟩, cz, H⟩ := H
     replace H : (if c4.isNone = true then (shutterlaw12_PaintKeeps.l0 aD 0 y z u A B D T U I W X Y ai aj au ak al am) else ((shutterref10_Same.f aD y z u A B D T U I W X Y).bind fun aS => (some aS))) = some r := H
     have b1 := Z cz
     clear cz
     rcases c4 with _ | a3
     ·have H1 : (shutterlaw12_PaintKeeps.l0 aD 0 y z u A B D T U I W X Y ai aj au ak al am) = some r := by rw [if_pos (show (none : Option Er).isNone = true by rfl)] at H; exact H
      clear H
      have H := H1
      clear H1
      try simp only [errW_none, errW_some]
      have H' := Z H
      clear H
      obtain ⟨b7, b8, b9, ca, cb, cc, cj, ck, cl, cm, cn, co⟩ := cells6 b.out
      try go_wp2_with (first | ((with_reducible refine gate_callee (f := 25) rfl ?_); refine goesL_ (some 26) rfl rfl Tryd.func25 (by kernel_rfl) rfl #[.agg #[.int .i64 y, .int .i64 z, .slice ac u.length ad, .int .i64 A, .bool B, .bool D]] rfl ag_ ?_; (with_reducible refine (shutterref10_Copy.calls y z _ _ u A B D T U I W X Y _ ?side1 ?side2 dh.out).mono ?_); (case side1 => repeat (first | exact (Kd.C_below aI.out HB.out) | (with_reducible apply pC))); (case side2 => exact aH.out); rintro e hP ⟨dE, rfl, aC, hb⟩; refine ⟨_, rfl, ?_⟩; have q := Z (Kd.R_lower aC (below_size bl_)); replace b := Z (kb b.out hb); replace HB := Z (below_step bl_ hb); (try clear hb); (try clear aT); (try clear hk); (try clear hi); (try clear aC)) | ((with_reducible refine gate_dst (N := 7) rfl ?_); refine bx_ 7 24 #[.int .i64 0, .int .i64 0, .slice none 0 0, .int .i64 0, .bool false, .bool false] ?_; intro l hg bW hbox hb; replace q := Z (rb q.out hb); have m := Z (hbox); have aU := Z (ln_ hg : w.heap.size ≤ l); have da := Z (ln_ hg : w.heap.size ≤ l); replace HB := Z (below_step bl_ hb); have aB := Z (nl b.out hg); have aP := Z (ng b.out hg); replace b := Z (kb b.out hb); clear hb hbox hg; have gQ := aP.out; have gZ := aB.out; obtain ⟨cd, ce, cf, cg, ch, ci, cp, cq, cr, ct, cu, cv⟩ := cells6 m.out; obtain ⟨ap, ar, dr⟩ := Kd.R_slice q.out; subst dr))
      have E : Aside0 (Kd.R k44 44 ((((((bW.setCell ⟨l, 0, none⟩ (.int .i64 T)).setCell ⟨l, 1, none⟩ (.int .i64 U)).setCell ⟨l, 2, none⟩ (.slice ap I.length ar)).setCell ⟨l, 3, none⟩ (.int .i64 W)).setCell ⟨l, 4, none⟩ (.bool X)).setCell ⟨l, 5, none⟩ (.bool Y)) w.heap.size (fun _ => True) (.slice ap I.length ar) I) := ⟨by (with_reducible repeat apply pR); exact Kd.R_mono (f6R l (Kd.R_types q.out m.out (by decide)) (fun _ hk => hk.2)) (fun _ hk => trivial)⟩
      have F : Aside0 (((((((bW.setCell ⟨l, 0, none⟩ (.int .i64 T)).setCell ⟨l, 1, none⟩ (.int .i64 U)).setCell ⟨l, 2, none⟩ (.slice ap I.length ar)).setCell ⟨l, 3, none⟩ (.int .i64 W)).setCell ⟨l, 4, none⟩ (.bool X)).setCell ⟨l, 5, none⟩ (.bool Y)).heap[s]? = some (.cells #[.int .i64 y, .int .i64 z, .slice ac u.length ad, .int .i64 A, .bool B, .bool D] 24 (0, 0))) := ⟨by (with_reducible repeat apply pK); exact blk_off b.out aB.out off2_⟩
      have P : Aside0 (((((((bW.setCell ⟨l, 0, none⟩ (.int .i64 T)).setCell ⟨l, 1, none⟩ (.int .i64 U)).setCell ⟨l, 2, none⟩ (.slice ap I.length ar)).setCell ⟨l, 3, none⟩ (.int .i64 W)).setCell ⟨l, 4, none⟩ (.bool X)).setCell ⟨l, 5, none⟩ (.bool Y)).heap[l]? = some (.cells #[.int .i64 T, .int .i64 U, .slice ap I.length ar, .int .i64 W, .bool X, .bool Y] 24 (0, 0))) := ⟨put6 m.out⟩
      have Q : Aside0 (Below w.heap.size w ((((((bW.setCell ⟨l, 0, none⟩ (.int .i64 T)).setCell ⟨l, 1, none⟩ (.int .i64 U)).setCell ⟨l, 2, none⟩ (.slice ap I.length ar)).setCell ⟨l, 3, none⟩ (.int .i64 W)).setCell ⟨l, 4, none⟩ (.bool X)).setCell ⟨l, 5, none⟩ (.bool Y))) := ⟨bl_⟩
      (try clear q)
      (try clear b)
      (try clear m)
      (try clear HB)
      generalize ((((((bW.setCell ⟨l, 0, none⟩ (.int .i64 T)).setCell ⟨l, 1, none⟩ (.int .i64 U)).setCell ⟨l, 2, none⟩ (.slice ap I.length ar)).setCell ⟨l, 3, none⟩ (.int .i64 W)).setCell ⟨l, 4, none⟩ (.bool X)).setCell ⟨l, 5, none⟩ (.bool Y)) = gw at E F P Q ⊢
      have q := E
      have b := F
      have m := P
      have HB := Q
      clear E F P Q
      have E := Z (Kd.R_drew q.out)
      have F := Z (blk_drew b.out)
      have P := Z (blk_drew m.out)
      have Q := Z (below_drew1 HB.out)
      clear q
      clear b
      clear m
      clear HB
      have q := E
      have b := F
      have m := P
      have HB := Q
      clear E F P Q
      refine start_ (n := 17) (S := fun w' => w'.cell? ⟨s, 0, none⟩ = some (.int .i64 y) ∧ w'.cell? ⟨s, 1, none⟩ = some (.int .i64 z) ∧ w'.cell? ⟨s, 2, none⟩ = some (.slice ac u.length ad) ∧ w'.cell? ⟨s, 3, none⟩ = some (.int .i64 A) ∧ w'.cell? ⟨s, 4, none⟩ = some (.bool B) ∧ w'.cell? ⟨s, 5, none⟩ = some (.bool D)) (ds := []) (bv 17 0) (by kernel_rfl) rfl rfl ⟨(blk_cell b.out 0).trans rfl, (blk_cell b.out 1).trans rfl, (blk_cell b.out 2).trans rfl, (blk_cell b.out 3).trans rfl, (blk_cell b.out 4).trans rfl, (blk_cell b.out 5).trans rfl⟩ (fun hHeld => ?_); refine with_tabW shutterlaw12_PaintKeeps.tab4 shutterlaw12_PaintKeeps.bits4 (fun HT_ HW_ => ?_)
      generalize gw.drew = hQ at q b m HB hHeld ⊢
      refine pure_ (i := 1) (N := some 29) (v := ?_) (a' := ?_) (bv 17 2) rfl rfl (any_of HT_.out (by kernel_rfl)) (fun _ _ _ h => h) (Or.inl ⟨by rfl, ?_⟩) ?_ ?_
      rotate_left
      ·intro w'
       go_simp
       with_reducible rfl
      rotate_left
      ·simp only [Act.put, sA, sB, sC, i64_w, i32_w]
       rfl
      refine pure_ (i := 2) (N := some 30) (v := ?_) (a' := ?_) (bv 17 6) rfl rfl (any_of HT_.out (by kernel_rfl)) (fun _ _ _ h => h) (Or.inl ⟨by rfl, ?_⟩) ?_ ?_
      rotate_left
      ·intro w'
       go_simp
       with_reducible rfl
      rotate_left
      ·simp only [Act.put, sA, sB, sC, i64_w, i32_w]
       rfl
      refine pure_ (i := 3) (N := some 31) (v := ?_) (a' := ?_) (bv 17 14) rfl rfl (any_of HT_.out (by kernel_rfl)) (fun _ _ _ h => h) (Or.inl ⟨by rfl, ?_⟩) ?_ ?_
      rotate_left
      ·intro w'
       go_simp
       with_reducible rfl
      rotate_left
      ·simp only [Act.put, sA, sB, sC, i64_w, i32_w]
       rfl
      refine pure_ (i := 7) (N := some 35) (v := ?_) (a' := ?_) (bv 17 142) rfl rfl (any_of HT_.out (by kernel_rfl)) (fun _ _ _ h => h) (Or.inl ⟨by rfl, ?_⟩) ?_ ?_
      rotate_left
      ·intro w'
       go_simp
       with_reducible rfl
      rotate_left
      ·simp only [Act.put, sA, sB, sC, i64_w, i32_w]
       rfl
      refine take_ (i := 0) (N := some 28) (v := ?_) (a' := ?_) (bv 17 143) rfl rfl (take_ofW HT_.out HW_.out (by kernel_rfl)) (fun _ _ _ h => h) (Or.inl ⟨by rfl, ?_⟩) hHeld ?_ ?_
      rotate_left
      ·rintro w' ⟨s0, s1, s2, s3, s4, s5⟩
       go_simp
       with_reducible rfl
      rotate_left
      ·simp only [Act.put, sA, sB, sC, i64_w, i32_w]
       rfl
      refine take_ (i := 4) (N := some 32) (v := ?_) (a' := ?_) (bv 17 159) rfl rfl (take_ofW HT_.out HW_.out (by kernel_rfl)) (fun _ _ _ h => h) (Or.inl ⟨by rfl, ?_⟩) hHeld ?_ ?_
      rotate_left
      ·rintro w' ⟨s0, s1, s2, s3, s4, s5⟩
       go_simp
       with_reducible rfl
      rotate_left
      ·simp only [Act.put, sA, sB, sC, i64_w, i32_w]
       rfl
      refine pure_ (i := 5) (N := some 33) (v := ?_) (a' := ?_) (bv 17 191) rfl rfl (any_of HT_.out (by kernel_rfl)) (fun _ _ _ h => h) (Or.inl ⟨by rfl, ?_⟩) ?_ ?_
      rotate_left
      ·intro w'
       go_simp
       with_reducible rfl
      rotate_left
      ·simp only [Act.put, sA, sB, sC, i64_w, i32_w]
       rfl
      refine pure_ (i := 6) (N := some 34) (v := ?_) (a' := ?_) (bv 17 255) rfl rfl (any_of HT_.out (by kernel_rfl)) (fun _ _ _ h => h) (Or.inl ⟨by rfl, ?_⟩) ?_ ?_
      rotate_left
      ·intro w'
       go_simp
       with_reducible rfl
      rotate_left
      ·simp only [Act.put, sA, sB, sC, i64_w, i32_w]
       rfl
      refine join_ (σ := Value × Value × Nat) 3 (bv 17 16383) (fun s_ => [(36, .tuple #[.agg #[.int .i64 ai, .int .i64 aj, s_.1, .int .i64 ak, .bool al, .bool am], .int .i64 aR, errW s_.2.1 none]), (8, .pointer (some ⟨s_.2.2, 0, none⟩)), (27, .tuple #[.agg #[.int .i64 ai, .int .i64 aj, s_.1, .int .i64 ak, .bool al, .bool am], .int .i64 aR, errW s_.2.1 none]), (37, .agg #[.int .i64 ai, .int .i64 aj, s_.1, .int .i64 ak, .bool al, .bool am]), (38, .int .i64 aR), (39, errW s_.2.1 none)]) (fun s_ w' => (w'.cell? ⟨s, 0, none⟩ = some (.int .i64 y) ∧ w'.cell? ⟨s, 1, none⟩ = some (.int .i64 z) ∧ w'.cell? ⟨s, 2, none⟩ = some (.slice ac u.length ad) ∧ w'.cell? ⟨s, 3, none⟩ = some (.int .i64 A) ∧ w'.cell? ⟨s, 4, none⟩ = some (.bool B) ∧ w'.cell? ⟨s, 5, none⟩ = some (.bool D)) ∧ (Kd.R k44 44 w' w.heap.size (fun k_ => some k_ ≠ (s_.1 : Value).ownBlock) (.slice ap I.length ar) I) ∧ (Kd.R k44 44 w' w.heap.size (fun k_ => some k_ ≠ (.slice ap I.length ar : Value).ownBlock) s_.1 au) ∧ (Kd.V k184 184 w' w.heap.size (fun k_ => some k_ ≠ (.slice ap I.length ar : Value).ownBlock ∧ some k_ ≠ (s_.1 : Value).ownBlock ∧ k_ ≠ s ∧ k_ ≠ l ∧ k_ ≠ s_.2.2) s_.2.1 a0) ∧ (w'.heap[s]? = some (.cells #[.int .i64 y, .int .i64 z, .slice ac u.length ad, .int .i64 A, .bool B, .bool D] 24 (0, 0))) ∧ (w'.heap[l]? = some (.cells #[.int .i64 T, .int .i64 U, .slice ap I.length ar, .int .i64 W, .bool X, .bool Y] 24 (0, 0))) ∧ (w'.heap[s_.2.2]? = some (.cells #[.int .i64 0, .int .i64 0, .slice none 0 0, .int .i64 0, .bool false, .bool false] 24 (0, 0))) ∧ (w.heap.size ≤ s_.2.2) ∧ (w.heap.size ≤ s_.2.2) ∧ (s ≠ s_.2.2) ∧ (s_.2.2 ≠ s) ∧ (l ≠ s_.2.2) ∧ (s_.2.2 ≠ l) ∧ (Below w.heap.size w w')) ?_ ?_
      rotate_left
      ·intro hCont
       refine two_ (i := 8) (j := 13) (Ni := some 36) (Nj := some 8) (bv 17 511) (bv 17 8447) rfl rfl rfl rfl (two_of HT_.out (by kernel_rfl)) (by decide) (by decide) (fun K hK => ?_) (fun K hK => ?_)
       ·skip
        refine goes_ Tryd.func24 (by kernel_rfl) rfl #[.agg #[.int .i64 y, .int .i64 z, .slice ac u.length ad, .int .i64 A, .bool B, .bool D], .int .i64 (Int.tmod (wrap64 (a1)) (u.length : Int)), .slice A2 l2.length c2] (by rfl) rfl rfl ag_ ?_
        with_reducible refine (paint_All.callsN aD y z (fun k_ => k_ < w.heap.size) _ _ u A B D (Int.tmod (wrap64 (a1)) (u.length : Int)) _ _ l2 ai aj au ak al am aR a0 _ ?side1 ?side2 ?side3 b1.out).mono ?_
        (case side1 => exact Kd.V_mk aH.out (Kd.F_below (Kd.C_F k44_heap aI.out) bl_))
        (case side2 => repeat (first | exact (Kd.C_below bI.out HB.out) | (with_reducible apply pC)))
        (case side3 => exact bH.out)
        rintro e gx ⟨aA, aO, rfl, aC, aY, hb⟩
        refine ⟨_, rfl, ?_⟩
        have E := Z (Kd.R_elder' (by (with_reducible repeat apply pR); exact q.out) (Kd.R_base aC) hb)
        have F := Z (Kd.R_lower (Kd.R_new' (Kd.R_mono (ok' := fun k_ => True) aC (fun _ hk_ => trivial)) (Kd.R_lt (by (with_reducible repeat apply pR); exact q.out))) (below_size bl_))
        have P := Z (Kd.V_lower (Kd.V_mono (ok' := fun k_ => some k_ ≠ (aA : Value).ownBlock ∧ some k_ ≠ (.slice ap I.length ar : Value).ownBlock ∧ k_ ≠ s ∧ k_ ≠ l) aY (fun k_ hk_ => ⟨hk_.2, Or.elim hk_.1 (fun hs_ => fun e_ => Nat.not_le.2 hs_ (Kd.R_base q.out k_ e_.symm)) (fun hn_ => (Kd.fresh' (Kd.R_lt (by (with_reducible repeat apply pR); exact q.out)) k_ hn_)), Or.elim hk_.1 (fun hs_ => fun e_ => Nat.not_le.2 hs_ (by rw [e_]; exact a2.out)) (fun hn_ => (fb b.out k_ hn_)), Or.elim hk_.1 (fun hs_ => fun e_ => Nat.not_le.2 hs_ (by rw [e_]; exact aU.out)) (fun hn_ => (fb m.out k_ hn_))⟩)) (below_size bl_))
        have Q := Z (kb b.out hb)
        have aa := Z (kb m.out hb)
        have ab := Z (below_step bl_ hb)
        clear q
        clear b
        clear m
        clear HB
        have q := E
        have ae := F
        have an := P
        have b := Q
        have m := aa
        have HB := ab
        clear E F P Q aa ab
        (try clear hb)
        (try clear aT)
        (try clear hk)
        (try clear hi)
        (try clear aC)
        (try clear aY)
        (try simp only [errW_none, errW_some])
        refine hK.out _ _ ⟨(blk_cell b.out 0).trans rfl, (blk_cell b.out 1).trans rfl, (blk_cell b.out 2).trans rfl, (blk_cell b.out 3).trans rfl, (blk_cell b.out 4).trans rfl, (blk_cell b.out 5).trans rfl⟩ (fun hHeld => ?_)
        clear hK K
        refine norm_ (a' := ?_) ?_ ?_
        rotate_left
        ·show Act.put _ (some 36) _ = _
         simp only [Act.put, sA, sB, sC, i64_w, i32_w]
         rfl
        refine pure_ (i := 9) (N := some 27) (v := ?_) (a' := ?_) (bv 17 1023) rfl rfl (any_of HT_.out (by kernel_rfl)) (fun _ _ _ h => h) (Or.inl ⟨by rfl, ?_⟩) ?_ ?_
        rotate_left
        ·intro w'
         go_simp
         with_reducible rfl
        rotate_left
        ·simp only [Act.put, sA, sB, sC, i64_w, i32_w]
         rfl
        refine pure_ (i := 10) (N := some 37) (v := ?_) (a' := ?_) (bv 17 2047) rfl rfl (any_of HT_.out (by kernel_rfl)) (fun _ _ _ h => h) (Or.inl ⟨by rfl, ?_⟩) ?_ ?_
        rotate_left
        ·intro w'
         go_simp
         with_reducible rfl
        rotate_left
        ·simp only [Act.put, sA, sB, sC, i64_w, i32_w]
         rfl
        refine pure_ (i := 11) (N := some 38) (v := ?_) (a' := ?_) (bv 17 4095) rfl rfl (any_of HT_.out (by kernel_rfl)) (fun _ _ _ h => h) (Or.inl ⟨by rfl, ?_⟩) ?_ ?_
        rotate_left
        ·intro w'
         go_simp
         with_reducible rfl
        rotate_left
        ·simp only [Act.put, sA, sB, sC, i64_w, i32_w]
         rfl
        refine pure_ (i := 12) (N := some 39) (v := ?_) (a' := ?_) (bv 17 8191) rfl rfl (any_of HT_.out (by kernel_rfl)) (fun _ _ _ h => h) (Or.inl ⟨by rfl, ?_⟩) ?_ ?_
        rotate_left
        ·intro w'
         go_simp
         with_reducible rfl
        rotate_left
        ·simp only [Act.put, sA, sB, sC, i64_w, i32_w]
         rfl
        refine one_ (i := 13) (N := some 8) (bv 17 16383) rfl rfl (one_of HT_.out (by kernel_rfl)) (by decide) (fun K hK => ?_)
        refine box_step ?hg (N := 8) ?hd (cs := #[.int .i64 0, .int .i64 0, .slice none 0 0, .int .i64 0, .bool false, .bool false]) (t := 24) ?hr ?_; (case hd => rfl); (case hg => rfl); (case hr => first | (go_simp; done) | (go_simp; rfl))
        intro d hg gy hbox hb
        have E := Z (rb q.out hb)
        have F := Z (rb ae.out hb)
        have P := Z (ve an.out hg hb)
        have Q := Z (kb b.out hb)
        have aa := Z (kb m.out hb)
        have ab := Z (below_step bl_ hb)
        have ag := Z (hbox)
        have aw := Z (ln_ hg : w.heap.size ≤ d)
        have aJ := Z (ln_ hg : w.heap.size ≤ d)
        have aK := Z (nl b.out hg)
        have av := Z (ng b.out hg)
        have aM := Z (nl m.out hg)
        have aN := Z (ng m.out hg)
        clear q
        clear ae
        clear an
        clear b
        clear m
        clear HB
        have q := E
        have ae := F
        have an := P
        have b := Q
        have m := aa
        have HB := ab
        have x := ag
        have ay := aw
        have aL := aJ
        have a := aK
        have J := av
        have G := aM
        have L := aN
        clear E F P Q aa ab ag aw aJ aK av aM aN
        clear hb hbox hg
        refine hK.out _ _ ⟨(blk_cell b.out 0).trans rfl, (blk_cell b.out 1).trans rfl, (blk_cell b.out 2).trans rfl, (blk_cell b.out 3).trans rfl, (blk_cell b.out 4).trans rfl, (blk_cell b.out 5).trans rfl⟩ (fun hHeld => ?_)
        clear hK K
        refine norm_ (a' := ?_) ?_ ?_
        rotate_left
        ·show Act.put _ (some 8) _ = _
         simp only [Act.put, sA, sB, sC, i64_w, i32_w]
         rfl
        exact norm_ (by simp only [putAll, Act.put, sA, sB, sC, errW_none, errW_some]) (hCont (aA, aO, d) _ ⟨hHeld, (by (with_reducible repeat apply pR); exact Kd.R_mono q.out (fun _ hk => hk.2)), (by (with_reducible repeat apply pR); exact Kd.R_mono ae.out (fun _ hk => hk.2)), (by (with_reducible repeat apply pV); exact Kd.V_mono an.out (fun _ hk => ⟨hk.1.2.1, ⟨hk.1.1, ⟨hk.1.2.2.1, ⟨hk.1.2.2.2, hk.2⟩⟩⟩⟩)), (vK b.out), (vK m.out), (vK x.out), ay.out, aL.out, a.out, J.out, G.out, L.out, bl_⟩)
       ·skip
        refine box_step ?hg (N := 8) ?hd (cs := #[.int .i64 0, .int .i64 0, .slice none 0 0, .int .i64 0, .bool false, .bool false]) (t := 24) ?hr ?_; (case hd => rfl); (case hg => rfl); (case hr => first | (go_simp; done) | (go_simp; rfl))
        intro d hg gx hbox hb
        have E := Z (rb q.out hb)
        have F := Z (kb b.out hb)
        have P := Z (kb m.out hb)
        have Q := Z (below_step bl_ hb)
        have aa := Z (hbox)
        have ab := Z (ln_ hg : w.heap.size ≤ d)
        have ag := Z (ln_ hg : w.heap.size ≤ d)
        have aw := Z (nl b.out hg)
        have aJ := Z (ng b.out hg)
        have aK := Z (nl m.out hg)
        have av := Z (ng m.out hg)
        clear q
        clear b
        clear m
        clear HB
        have q := E
        have b := F
        have m := P
        have HB := Q
        have x := aa
        have ay := ab
        have aL := ag
        have a := aw
        have J := aJ
        have G := aK
        have L := av
        clear E F P Q aa ab ag aw aJ aK av
        clear hb hbox hg
        refine hK.out _ _ ⟨(blk_cell b.out 0).trans rfl, (blk_cell b.out 1).trans rfl, (blk_cell b.out 2).trans rfl, (blk_cell b.out 3).trans rfl, (blk_cell b.out 4).trans rfl, (blk_cell b.out 5).trans rfl⟩ (fun hHeld => ?_)
        clear hK K
        refine norm_ (a' := ?_) ?_ ?_
        rotate_left
        ·show Act.put _ (some 8) _ = _
         simp only [Act.put, sA, sB, sC, i64_w, i32_w]
         rfl
        refine one_ (i := 8) (N := some 36) (bv 17 8703) rfl rfl (one_of HT_.out (by kernel_rfl)) (by decide) (fun K hK => ?_)
        refine goes_ Tryd.func24 (by kernel_rfl) rfl #[.agg #[.int .i64 y, .int .i64 z, .slice ac u.length ad, .int .i64 A, .bool B, .bool D], .int .i64 (Int.tmod (wrap64 (a1)) (u.length : Int)), .slice A2 l2.length c2] (by rfl) rfl rfl ag_ ?_
        with_reducible refine (paint_All.callsN aD y z (fun k_ => k_ < w.heap.size) _ _ u A B D (Int.tmod (wrap64 (a1)) (u.length : Int)) _ _ l2 ai aj au ak al am aR a0 _ ?side1 ?side2 ?side3 b1.out).mono ?_
        (case side1 => exact Kd.V_mk aH.out (Kd.F_below (Kd.C_F k44_heap aI.out) bl_))
        (case side2 => repeat (first | exact (Kd.C_below bI.out HB.out) | (with_reducible apply pC)))
        (case side3 => exact bH.out)
        rintro e gy ⟨aA, aO, rfl, aC, aY, hb⟩
        refine ⟨_, rfl, ?_⟩
        have E := Z (Kd.R_elder' (by (with_reducible repeat apply pR); exact q.out) (Kd.R_base aC) hb)
        have F := Z (Kd.R_lower (Kd.R_new' (Kd.R_mono (ok' := fun k_ => True) aC (fun _ hk_ => trivial)) (Kd.R_lt (by (with_reducible repeat apply pR); exact q.out))) (below_size bl_))
        have P := Z (Kd.V_lower (Kd.V_mono (ok' := fun k_ => some k_ ≠ (aA : Value).ownBlock ∧ some k_ ≠ (.slice ap I.length ar : Value).ownBlock ∧ k_ ≠ s ∧ k_ ≠ l ∧ k_ ≠ d) aY (fun k_ hk_ => ⟨hk_.2, Or.elim hk_.1 (fun hs_ => fun e_ => Nat.not_le.2 hs_ (Kd.R_base q.out k_ e_.symm)) (fun hn_ => (Kd.fresh' (Kd.R_lt (by (with_reducible repeat apply pR); exact q.out)) k_ hn_)), Or.elim hk_.1 (fun hs_ => fun e_ => Nat.not_le.2 hs_ (by rw [e_]; exact a2.out)) (fun hn_ => (fb b.out k_ hn_)), Or.elim hk_.1 (fun hs_ => fun e_ => Nat.not_le.2 hs_ (by rw [e_]; exact aU.out)) (fun hn_ => (fb m.out k_ hn_)), Or.elim hk_.1 (fun hs_ => fun e_ => Nat.not_le.2 hs_ (by rw [e_]; exact ay.out)) (fun hn_ => (fb x.out k_ hn_))⟩)) (below_size bl_))
        have Q := Z (kb b.out hb)
        have aa := Z (kb m.out hb)
        have ab := Z (kb x.out hb)
        have ag := Z (below_step bl_ hb)
        clear q
        clear b
        clear m
        clear x
        clear HB
        have q := E
        have ae := F
        have an := P
        have b := Q
        have m := aa
        have x := ab
        have HB := ag
        clear E F P Q aa ab ag
        (try clear hb)
        (try clear aT)
        (try clear hk)
        (try clear hi)
        (try clear aC)
        (try clear aY)
        (try simp only [errW_none, errW_some])
        refine hK.out _ _ ⟨(blk_cell b.out 0).trans rfl, (blk_cell b.out 1).trans rfl, (blk_cell b.out 2).trans rfl, (blk_cell b.out 3).trans rfl, (blk_cell b.out 4).trans rfl, (blk_cell b.out 5).trans rfl⟩ (fun hHeld => ?_)
        clear hK K
        refine norm_ (a' := ?_) ?_ ?_
        rotate_left
        ·show Act.put _ (some 36) _ = _
         simp only [Act.put, sA, sB, sC, i64_w, i32_w]
         rfl
        refine pure_ (i := 9) (N := some 27) (v := ?_) (a' := ?_) (bv 17 9215) rfl rfl (any_of HT_.out (by kernel_rfl)) (fun _ _ _ h => h) (Or.inl ⟨by rfl, ?_⟩) ?_ ?_
        rotate_left
        ·intro w'
         go_simp
         with_reducible rfl
        rotate_left
        ·simp only [Act.put, sA, sB, sC, i64_w, i32_w]
         rfl
        refine pure_ (i := 10) (N := some 37) (v := ?_) (a' := ?_) (bv 17 10239) rfl rfl (any_of HT_.out (by kernel_rfl)) (fun _ _ _ h => h) (Or.inl ⟨by rfl, ?_⟩) ?_ ?_
        rotate_left
        ·intro w'
         go_simp
         with_reducible rfl
        rotate_left
        ·simp only [Act.put, sA, sB, sC, i64_w, i32_w]
         rfl
        refine pure_ (i := 11) (N := some 38) (v := ?_) (a' := ?_) (bv 17 12287) rfl rfl (any_of HT_.out (by kernel_rfl)) (fun _ _ _ h => h) (Or.inl ⟨by rfl, ?_⟩) ?_ ?_
        rotate_left
        ·intro w'
         go_simp
         with_reducible rfl
        rotate_left
        ·simp only [Act.put, sA, sB, sC, i64_w, i32_w]
         rfl
        refine pure_ (i := 12) (N := some 39) (v := ?_) (a' := ?_) (bv 17 16383) rfl rfl (any_of HT_.out (by kernel_rfl)) (fun _ _ _ h => h) (Or.inl ⟨by rfl, ?_⟩) ?_ ?_
        rotate_left
        ·intro w'
         go_simp
         with_reducible rfl
        rotate_left
        ·simp only [Act.put, sA, sB, sC, i64_w, i32_w]
         rfl
        exact norm_ (by simp only [putAll, Act.put, sA, sB, sC, errW_none, errW_some]) (hCont (aA, aO, d) _ ⟨hHeld, (by (with_reducible repeat apply pR); exact Kd.R_mono q.out (fun _ hk => hk.2)), (by (with_reducible repeat apply pR); exact Kd.R_mono ae.out (fun _ hk => hk.2)), (by (with_reducible repeat apply pV); exact Kd.V_mono an.out (fun _ hk => ⟨hk.2.1, ⟨hk.1, ⟨hk.2.2.1, ⟨hk.2.2.2.1, hk.2.2.2.2⟩⟩⟩⟩)), (vK b.out), (vK m.out), (vK x.out), ay.out, aL.out, a.out, J.out, G.out, L.out, bl_⟩)
      rintro ⟨aA, aO, d⟩ aE ⟨hS_, bM, bN, bO, bP, bQ, bR, bS, bT, bU, bV, ba, bb, bc⟩
      have E : Aside0 (Kd.R k44 44 aE w.heap.size (fun k_ => some k_ ≠ (aA : Value).ownBlock) (.slice ap I.length ar) I) := ⟨bM⟩
      have F : Aside0 (Kd.R k44 44 aE w.heap.size (fun k_ => some k_ ≠ (.slice ap I.length ar : Value).ownBlock) aA au) := ⟨bN⟩
      have P : Aside0 (Kd.V k184 184 aE w.heap.size (fun k_ => some k_ ≠ (.slice ap I.length ar : Value).ownBlock ∧ some k_ ≠ (aA : Value).ownBlock ∧ k_ ≠ s ∧ k_ ≠ l ∧ k_ ≠ d) aO a0) := ⟨bO⟩
      have Q : Aside0 (aE.heap[s]? = some (.cells #[.int .i64 y, .int .i64 z, .slice ac u.length ad, .int .i64 A, .bool B, .bool D] 24 (0, 0))) := ⟨bP⟩
      have aa : Aside0 (aE.heap[l]? = some (.cells #[.int .i64 T, .int .i64 U, .slice ap I.length ar, .int .i64 W, .bool X, .bool Y] 24 (0, 0))) := ⟨bQ⟩
      have ab : Aside0 (aE.heap[d]? = some (.cells #[.int .i64 0, .int .i64 0, .slice none 0 0, .int .i64 0, .bool false, .bool false] 24 (0, 0))) := ⟨bR⟩
      have ag : Aside0 (w.heap.size ≤ d) := ⟨bS⟩
      have aw : Aside0 (w.heap.size ≤ d) := ⟨bT⟩
      have aJ : Aside0 (s ≠ d) := ⟨bU⟩
      have aK : Aside0 (d ≠ s) := ⟨bV⟩
      have av : Aside0 (l ≠ d) := ⟨ba⟩
      have aM : Aside0 (d ≠ l) := ⟨bb⟩
      have aN : Aside0 (Below w.heap.size w aE) := ⟨bc⟩
      clear q
      clear b
      clear m
      clear HB
      clear bM bN bO bP bQ bR bS bT bU bV ba bb bc
      have q := E
      have ae := F
      have an := P
      have b := Q
      have m := aa
      have x := ab
      have ay := ag
      have aL := aw
      have a := aJ
      have J := aK
      have G := av
      have L := aM
      have HB := aN
      clear E F P Q aa ab ag aw aJ aK av aM aN
      have hHeld : aE.cell? ⟨s, 0, none⟩ = some (.int .i64 y) ∧ aE.cell? ⟨s, 1, none⟩ = some (.int .i64 z) ∧ aE.cell? ⟨s, 2, none⟩ = some (.slice ac u.length ad) ∧ aE.cell? ⟨s, 3, none⟩ = some (.int .i64 A) ∧ aE.cell? ⟨s, 4, none⟩ = some (.bool B) ∧ aE.cell? ⟨s, 5, none⟩ = some (.bool D) := hS_
      obtain ⟨bX, bZ, cG⟩ := Kd.R_slice ae.out
      (first | subst cG | (injection cG with bK cJ bL; have cK := bK.symm; have cL := bL.symm; clear bK cJ bL; subst cK; subst cL))
      refine norm_ (a' := ?_) ?_ ?_
      rotate_left
      ·simp only [putAll, Act.put, sA, sB, sC]
       rfl
      refine one_ (i := 14) (N := none) (bv 17 32767) rfl rfl (one_of HT_.out (by kernel_rfl)) (by decide) (fun K hK => ?_)
      have hl : aE.cell? ⟨d, 0, none⟩ = some (.int .i64 0) := (blk_cell x.out 0).trans rfl
      have gE := blk_frozen x.out 0
      have fC := a.out
      have fD := G.out
      have fe := J.out
      have ff := L.out
      have hm : aE.cell? ⟨d, 1, none⟩ = some (.int .i64 0) := (blk_cell x.out 1).trans rfl
      have gF := blk_frozen x.out 1
      have fE := a.out
      have fF := G.out
      have fg := J.out
      have fh := L.out
      have hp : aE.cell? ⟨d, 2, none⟩ = some (.slice none 0 0) := (blk_cell x.out 2).trans rfl
      have gG := blk_frozen x.out 2
      have fG := a.out
      have fH := G.out
      have fi := J.out
      have fj := L.out
      have hq : aE.cell? ⟨d, 3, none⟩ = some (.int .i64 0) := (blk_cell x.out 3).trans rfl
      have gH := blk_frozen x.out 3
      have fI := a.out
      have fJ := G.out
      have fk := J.out
      have fl := L.out
      have hs : aE.cell? ⟨d, 4, none⟩ = some (.bool false) := (blk_cell x.out 4).trans rfl
      have gI := blk_frozen x.out 4
      have fK := a.out
      have fL := G.out
      have fm := J.out
      have fn := L.out
      have ht : aE.cell? ⟨d, 5, none⟩ = some (.bool false) := (blk_cell x.out 5).trans rfl
      have gJ := blk_frozen x.out 5
      have fM := a.out
      have fN := G.out
      have fo := J.out
      have fp := L.out
      refine skip_ (w1 := ?_) (by rfl) rfl ?_ ?_
      rotate_left
      ·go_simp
       rfl
      refine hK.out _ _ ⟨((cell_far (p := ⟨d, _, none⟩) a.out _).trans (((cell_far (p := ⟨d, _, none⟩) a.out _).trans (((cell_far (p := ⟨d, _, none⟩) a.out _).trans (((cell_far (p := ⟨d, _, none⟩) a.out _).trans (((cell_far (p := ⟨d, _, none⟩) a.out _).trans (((cell_far (p := ⟨d, _, none⟩) a.out _).trans (hHeld.1)))))))))))), ((cell_far (p := ⟨d, _, none⟩) a.out _).trans (((cell_far (p := ⟨d, _, none⟩) a.out _).trans (((cell_far (p := ⟨d, _, none⟩) a.out _).trans (((cell_far (p := ⟨d, _, none⟩) a.out _).trans (((cell_far (p := ⟨d, _, none⟩) a.out _).trans (((cell_far (p := ⟨d, _, none⟩) a.out _).trans (hHeld.2.1)))))))))))), ((cell_far (p := ⟨d, _, none⟩) a.out _).trans (((cell_far (p := ⟨d, _, none⟩) a.out _).trans (((cell_far (p := ⟨d, _, none⟩) a.out _).trans (((cell_far (p := ⟨d, _, none⟩) a.out _).trans (((cell_far (p := ⟨d, _, none⟩) a.out _).trans (((cell_far (p := ⟨d, _, none⟩) a.out _).trans (hHeld.2.2.1)))))))))))), ((cell_far (p := ⟨d, _, none⟩) a.out _).trans (((cell_far (p := ⟨d, _, none⟩) a.out _).trans (((cell_far (p := ⟨d, _, none⟩) a.out _).trans (((cell_far (p := ⟨d, _, none⟩) a.out _).trans (((cell_far (p := ⟨d, _, none⟩) a.out _).trans (((cell_far (p := ⟨d, _, none⟩) a.out _).trans (hHeld.2.2.2.1)))))))))))), ((cell_far (p := ⟨d, _, none⟩) a.out _).trans (((cell_far (p := ⟨d, _, none⟩) a.out _).trans (((cell_far (p := ⟨d, _, none⟩) a.out _).trans (((cell_far (p := ⟨d, _, none⟩) a.out _).trans (((cell_far (p := ⟨d, _, none⟩) a.out _).trans (((cell_far (p := ⟨d, _, none⟩) a.out _).trans (hHeld.2.2.2.2.1)))))))))))), ((cell_far (p := ⟨d, _, none⟩) a.out _).trans (((cell_far (p := ⟨d, _, none⟩) a.out _).trans (((cell_far (p := ⟨d, _, none⟩) a.out _).trans (((cell_far (p := ⟨d, _, none⟩) a.out _).trans (((cell_far (p := ⟨d, _, none⟩) a.out _).trans (((cell_far (p := ⟨d, _, none⟩) a.out _).trans (hHeld.2.2.2.2.2))))))))))))⟩ (fun hHeld => ?_)
      clear hK K
      refine pure_ (i := 15) (N := some 9) (v := ?_) (a' := ?_) (bv 17 65535) rfl rfl (any_of HT_.out (by kernel_rfl)) (fun _ _ _ h => h) (Or.inl ⟨by rfl, ?_⟩) ?_ ?_
      rotate_left
      ·intro w'
       go_simp
       with_reducible rfl
      rotate_left
      ·simp only [Act.put, sA, sB, sC, i64_w, i32_w]
       rfl
      refine pure_ (i := 16) (N := some 10) (v := ?_) (a' := ?_) (bv 17 131071) rfl rfl (any_of HT_.out (by kernel_rfl)) (fun _ _ _ h => h) (Or.inl ⟨by rfl, ?_⟩) ?_ ?_
      rotate_left
      ·intro w'
       go_simp
       with_reducible rfl
      rotate_left
      ·simp only [Act.put, sA, sB, sC, i64_w, i32_w]
       rfl
      refine done_ (done_of HT_.out (by kernel_rfl)) ?_
      try simp only [errW_none, errW_some]
      try go_wp2
      go_loopg [11] aD (fun kq gu w' => ∃ (O : Int) (ax : List (S44)) (M : List (S44)) (u419002 : Value) (u433002 : Value), gu = .int .i64 O ∧ Aside0 (shutterlaw12_PaintKeeps.l0 kq O y z u A B D T U ax W X Y ai aj M ak al am = some r) ∧ Aside0 (kq ≤ aD) ∧ Aside0 (Kd.R k44 44 w' w.heap.size (fun k_ => some k_ ≠ (u433002 : Value).ownBlock) u419002 ax) ∧ Aside0 (Kd.R k44 44 w' w.heap.size (fun k_ => some k_ ≠ (u419002 : Value).ownBlock) u433002 M) ∧ Aside0 (w'.heap[s]? = some (.cells #[.int .i64 y, .int .i64 z, (.slice ac u.length ad), .int .i64 A, .bool B, .bool D] 24 (0, 0))) ∧ Aside0 (w'.heap[l]? = some (.cells #[.int .i64 T, .int .i64 U, u419002, .int .i64 W, .bool X, .bool Y] 24 (0, 0))) ∧ Aside0 (w'.heap[d]? = some (.cells #[.int .i64 ai, .int .i64 aj, u433002, .int .i64 ak, .bool al, .bool am] 24 (0, 0))) ∧ Aside0 (Below w.heap.size w w'))
      case atStart => exact ⟨(0), (I), (au), (.slice ap I.length ar), (.slice bX au.length bZ), (dn_), H', ⟨Nat.le_refl _⟩, ⟨by (with_reducible repeat apply pR); exact Kd.R_mono (f6R d (Kd.R_types q.out x.out (by decide)) (fun _ hk => hk.2)) (fun _ hk => hk.1)⟩, ⟨by (with_reducible repeat apply pR); exact Kd.R_mono (f6R d (Kd.R_types ae.out x.out (by decide)) (fun _ hk => hk.2)) (fun _ hk => hk.1)⟩, ⟨by (with_reducible repeat apply pK); exact blk_off b.out a.out off2_⟩, ⟨by (with_reducible repeat apply pK); exact blk_off m.out G.out off2_⟩, ⟨put6 x.out⟩, ⟨bl_⟩⟩
      case round =>
       clear H'
       try clear c1
       try clear c2
       try clear p2
       try clear q4
       try clear c6
       try clear p6
       try clear c7
       try clear c9
       try clear gg
       try clear bJ
       try clear bd
       try clear dc
       try clear dd
       try clear de
       try clear c24
       try clear hF
       try clear hH
       try clear bf
       try clear bg
       try clear bh
       try clear bi
       try clear bj
       try clear bk
       try clear bl
       try clear bm
       try clear bn
       try clear bo
       try clear bp
       try clear bq
       try clear b7
       try clear b8
       try clear b9
       try clear ca
       try clear cb
       try clear cc
       try clear cd
       try clear ce
       try clear cf
       try clear cg
       try clear ch
       try clear ci
       try clear br
       try clear bs
       try clear bt
       try clear bu
       try clear bw
       try clear bx
       try clear bz
       try clear bA
       try clear bB
       try clear bC
       try clear bD
       try clear bE
       try clear cj
       try clear ck
       try clear cl
       try clear cm
       try clear cn
       try clear co
       try clear cp
       try clear cq
       try clear cr
       try clear ct
       try clear cu
       try clear cv
       try clear p2
       try clear a3
       obtain ⟨O, ax, M, u419002, u433002, rfl, HA, dl, HO_419002, HO_433002, b, m, x, HB⟩ := hrel
       cases gk with
       | zero => exact absurd HA.out (by simp [shutterlaw12_PaintKeeps.l0])
       | succ k2 =>
        have H := HA.out
        clear HA
        simp only [shutterlaw12_PaintKeeps.l0] at H
        by_cases be : O < (M.length : Int)
        ·rw [if_pos be] at H
         have df : decide (O < (M.length : Int)) = true := decide_eq_true be
         clear be
         by_cases b2 : 0 ≤ O
         ·rw [if_pos b2] at H
          have gD : decide (0 ≤ O) = true := decide_eq_true b2
          clear b2
          obtain ⟨b0, a4⟩ : ∃ y_ : List (S44), y_ = (M.set (O : Int).toNat (⟨false, (⟨false, false, 0, false⟩ : S28), 7⟩ : S44)) := ⟨_, rfl⟩
          replace H : (shutterlaw12_PaintKeeps.l0 k2 (wrap64 (O + 1)) y z u A B D T U ax W X Y ai aj b0 ak al am) = some r := by first | (rw [a4]; with_reducible exact H) | (have cC := (Option.bind_some _ _).symm.trans H; rw [a4]; with_reducible exact cC) | (have cC := (Option.bind_some _ _).symm.trans H; with_reducible exact cC) | with_reducible exact H | (rw [a4]; exact H) | exact H
          have db := Z a4
          clear a4
          have H' := Z H
          clear H
          have gR := J.out
          have g0 := a.out
          have gS := L.out
          have g1 := G.out
          obtain ⟨dF, dG, dH, dI, dJ, dK, er, es, et, eu, ev, ew⟩ := cells6 x.out
          obtain ⟨g8, a6, dt⟩ := Kd.R_slice HO_433002.out
          subst dt
          have p44 : 0 ≤ (O : Int) := od_
          have c3 : (O : Int) < ((M.length : Int) : Int) := od_
          obtain ⟨af, hh, cH, cM, dx, hf, cE⟩ := Kd.R_form HO_433002.out (by omega)
          (first | cases cH | (injection cH with ea_ en_ ec_; (first | subst ea_ | (injection ea_ with ea_; subst ea_)); subst ec_; clear en_))
          have a5 := Z cM
          have ha := Z cE
          clear cM dx cE
          obtain ⟨hc, dg, cN, aV, aW⟩ := Kd.R_elem HO_433002.out z44 (O : Int) p44 c3
          obtain rfl := k44_openM cN
          have go : wr.cell? ⟨af, (O : Int).toNat * 6, none⟩ = some (.bool ((rd_T44 M O).f0)) := aV 0 _ rfl
          have gp : wr.cell? ⟨af, (O : Int).toNat * 6 + 1, none⟩ = some (.bool ((rd_T44 M O).f1.f0)) := aV 1 _ rfl
          have gq : wr.cell? ⟨af, (O : Int).toNat * 6 + 2, none⟩ = some (.bool ((rd_T44 M O).f1.f1)) := aV 2 _ rfl
          have gr : wr.cell? ⟨af, (O : Int).toNat * 6 + 3, none⟩ = some (.int .i64 ((rd_T44 M O).f1.f2)) := aV 3 _ rfl
          have gs : wr.cell? ⟨af, (O : Int).toNat * 6 + 4, none⟩ = some (.bool ((rd_T44 M O).f1.f3)) := aV 4 _ rfl
          have gt : wr.cell? ⟨af, (O : Int).toNat * 6 + 5, none⟩ = some (.int .u8 ((rd_T44 M O).f2)) := aV 5 _ rfl
          have gh : wr.frozen? ⟨af, (O : Int).toNat * 6, none⟩ = false := aW 0
          have gi : wr.frozen? ⟨af, (O : Int).toNat * 6 + 1, none⟩ = false := aW 1
          have gj : wr.frozen? ⟨af, (O : Int).toNat * 6 + 2, none⟩ = false := aW 2
          have gl : wr.frozen? ⟨af, (O : Int).toNat * 6 + 3, none⟩ = false := aW 3
          have gm : wr.frozen? ⟨af, (O : Int).toNat * 6 + 4, none⟩ = false := aW 4
          have gn : wr.frozen? ⟨af, (O : Int).toNat * 6 + 5, none⟩ = false := aW 5
          clear dg aV aW cN
          replace p44 := eq_true p44
          replace c3 := eq_true c3
          have cF := Z (show Kd.R k44 44 wr w.heap.size (fun k_ => some k_ ≠ (u419002 : Value).ownBlock) (.slice (some ⟨af, 0, none⟩) M.length a6) M from (by (with_reducible repeat apply pR); exact HO_433002.out))
          obtain ⟨he, b4, cO, aQ, aX⟩ := Kd.R_elem cF.out z44 (O : Int) (od_) (by have h_ : (O : Int) < ((M.length : Int) : Int) := od_; first | exact h_ | (have e_ := (Kd.R_reads' HO_433002.out).1; omega) | simpa using h_)
          obtain rfl := k44_openM cO
          have bY := Kd.R_seg cF.out (O : Int) (od_) (by have h_ : (O : Int) < ((M.length : Int) : Int) := od_; first | exact h_ | (have e_ := (Kd.R_reads' HO_433002.out).1; omega) | simpa using h_) (seg := [.bool false, .bool false, .bool false, .int .i64 0, .bool false, .int .u8 7]) (j := 0) b4 aQ (show 6 ≤ 6 from by decide) (x' := (⟨false, (⟨false, false, 0, false⟩ : S28), 7⟩ : S44)) (k44_mkM _ _ _ (⟨false, (⟨false, false, 0, false⟩ : S28), 7⟩ : S44) ) (fun _ hk => hk)
          have cV := aQ 0 _ rfl
          (try simp only [show (k44).sz = 6 from rfl, Nat.mul_one, Nat.add_zero] at cV)
          have cP := aX 0
          (try simp only [show (k44).sz = 6 from rfl, Nat.mul_one, Nat.add_zero] at cP)
          have cW := aQ 1 _ rfl
          (try simp only [show (k44).sz = 6 from rfl, Nat.mul_one, Nat.add_zero] at cW)
          have cQ := aX 1
          (try simp only [show (k44).sz = 6 from rfl, Nat.mul_one, Nat.add_zero] at cQ)
          have cX := aQ 2 _ rfl
          (try simp only [show (k44).sz = 6 from rfl, Nat.mul_one, Nat.add_zero] at cX)
          have cR := aX 2
          (try simp only [show (k44).sz = 6 from rfl, Nat.mul_one, Nat.add_zero] at cR)
          have cY := aQ 3 _ rfl
          (try simp only [show (k44).sz = 6 from rfl, Nat.mul_one, Nat.add_zero] at cY)
          have cS := aX 3
          (try simp only [show (k44).sz = 6 from rfl, Nat.mul_one, Nat.add_zero] at cS)
          have cZ := aQ 4 _ rfl
          (try simp only [show (k44).sz = 6 from rfl, Nat.mul_one, Nat.add_zero] at cZ)
          have cT := aX 4
          (try simp only [show (k44).sz = 6 from rfl, Nat.mul_one, Nat.add_zero] at cT)
          have c0 := aQ 5 _ rfl
          (try simp only [show (k44).sz = 6 from rfl, Nat.mul_one, Nat.add_zero] at c0)
          have cU := aX 5
          (try simp only [show (k44).sz = 6 from rfl, Nat.mul_one, Nat.add_zero] at cU)
          clear b4 aQ aX cO
          go_wp2_with (first | ((with_reducible refine gate_store (t := 44) (p := 56) rfl ?_); refine sx_ 44 56 ((((((wr.setCell ⟨af, (O : Int).toNat * 6, none⟩ (.bool false)).setCell ⟨af, (O : Int).toNat * 6 + 1, none⟩ (.bool false)).setCell ⟨af, (O : Int).toNat * 6 + 2, none⟩ (.bool false)).setCell ⟨af, (O : Int).toNat * 6 + 3, none⟩ (.int .i64 0)).setCell ⟨af, (O : Int).toNat * 6 + 4, none⟩ (.bool false)).setCell ⟨af, (O : Int).toNat * 6 + 5, none⟩ (.int .u8 7)) ?_; intro c8 hw; have hg : wr.grownBy c8 (some af) := (by rw [hw]; exact bY.2); have hp_ : Kd.R k44 44 c8 w.heap.size (fun k_ => some k_ ≠ (u419002 : Value).ownBlock) (.slice (some ⟨af, 0, none⟩) M.length a6) b0 := (by rw [hw, db.out]; exact bY.1); clear bY; replace HO_419002 := Z (Kd.R_after (v := (.slice (some ⟨af, 0, none⟩) M.length a6)) (v1 := (.slice (some ⟨af, 0, none⟩) M.length a6)) (ok := (fun _ => True)) (by (with_reducible repeat apply pR); exact Kd.R_mono HO_419002.out (fun _ hk => ⟨trivial, hk⟩)) hg (.inl rfl)); replace b := Z (blk_grown (g := s) (o := .cells #[.int .i64 y, .int .i64 z, .slice ac u.length ad, .int .i64 A, .bool B, .bool D] 24 (0, 0)) (vK b.out) hg (Kd.R_ne HO_433002.out b.out (by decide))); replace m := Z (blk_grown (g := l) (o := .cells #[.int .i64 T, .int .i64 U, u419002, .int .i64 W, .bool X, .bool Y] 24 (0, 0)) (vK m.out) hg (Kd.R_ne HO_433002.out m.out (by decide))); replace x := Z (blk_grown (g := d) (o := .cells #[.int .i64 ai, .int .i64 aj, .slice (some ⟨af, 0, none⟩) M.length a6, .int .i64 ak, .bool al, .bool am] 24 (0, 0)) (vK x.out) hg (Kd.R_ne HO_433002.out x.out (by decide))); replace HO_433002 := Z (hp_); replace HB := Z ((by rw [hw]; exact below_set (below_set (below_set (below_set (below_set (below_set (HB.out) a5.out) a5.out) a5.out) a5.out) a5.out) a5.out : Below w.heap.size w c8)); clear hg hw hp_))
          go_roundg k2
          case measure => have := dk.out; have := dl.out; omega
          case rel => exact ⟨(wrap64 (O + 1)), (ax), (b0), (u419002), (.slice (some ⟨af, 0, none⟩) M.length a6), (dn_), H', ⟨by have := dk.out; have := dl.out; omega⟩, ⟨by (with_reducible repeat apply pR); exact Kd.R_mono HO_419002.out (fun _ hk => hk.2)⟩, ⟨by (with_reducible repeat apply pR); exact HO_433002.out⟩, ⟨vK b.out⟩, ⟨vK m.out⟩, ⟨vK x.out⟩, ⟨bl_⟩⟩
         ·rw [if_neg b2] at H
          exact absurd H (by simp)
        ·rw [if_neg be] at H
         have df : decide (O < (M.length : Int)) = false := decide_eq_false be
         clear be
         replace H := Option.bind_eq_some_iff.mp H
         obtain ⟨c5, cA, H⟩ := H
         replace H : (some c5) = some r := H
         have gc := Z cA
         clear cA
         obtain rfl := Option.some.inj H
         have gT := J.out
         have g2 := a.out
         have gU := L.out
         have g3 := G.out
         obtain ⟨dL, dM, dN, dO, dP, dQ, ex, ey, ez, eA, eB, eC⟩ := cells6 x.out
         obtain ⟨g9, hj, du⟩ := Kd.R_slice HO_433002.out
         subst du
         have gV := aB.out
         have g4 := aP.out
         obtain ⟨dR, dS, dT, dU, dV, dW, eD, eE, eF, eG, eH, eI⟩ := cells6 b.out
         obtain ⟨dX, dY, dZ, d0, d1, d2, eJ, eK, eL, eM, eN, eO⟩ := cells6 m.out
         obtain ⟨dp, dq, dv⟩ := Kd.R_slice HO_419002.out
         subst dv
         go_wp2_with (first | ((with_reducible refine gate_callee (f := 19) rfl ?_); refine goesL_ (some 59) rfl rfl Tryd.func19 (by kernel_rfl) rfl #[.agg #[.int .i64 y, .int .i64 z, .slice ac u.length ad, .int .i64 A, .bool B, .bool D], .agg #[.int .i64 T, .int .i64 U, .slice dp ax.length dq, .int .i64 W, .bool X, .bool Y]] rfl ag_ ?_; (with_reducible refine (shutterref10_Same.calls k2 y z _ _ u A B D T U _ _ ax W X Y c5 _ ?side1 ?side2 ?side3 ?side4 gc.out).mono ?_); (case side1 => repeat (first | exact (Kd.C_below aI.out HB.out) | (with_reducible apply pC))); (case side2 => exact aH.out); (case side3 => repeat (first | exact (Kd.R_reads' HO_419002.out).2.2 | (with_reducible apply pC))); (case side4 => exact (Kd.R_reads' HO_419002.out).2.1); rintro e hR ⟨rfl, hb⟩; refine ⟨_, rfl, ?_⟩; replace HO_419002 := Z (rb HO_419002.out hb); replace HO_433002 := Z (rb HO_433002.out hb); replace b := Z (kb b.out hb); replace m := Z (kb m.out hb); replace x := Z (kb x.out hb); replace HB := Z (below_step bl_ hb); (try clear hb); (try clear aT); (try clear hk); (try clear hi)))
         go_ret
         exact ⟨er_, bl_⟩
     ·have H1 : ((shutterref10_Same.f aD y z u A B D T U I W X Y).bind fun aS => (some aS)) = some r := by rw [if_neg (show ¬ (some a3).isNone = true by simp)] at H; exact H
      clear H
      have H := H1
      clear H1
      try simp only [errW_none, errW_some]
      replace H := Option.bind_eq_some_iff.mp H
      obtain ⟨aS, cB, H⟩ := H
      replace H : (some aS) = some r := H
      have ge := Z cB
      clear cB
      obtain rfl := Option.some.inj H
      obtain ⟨d3, d4, d5, d6, d7, d8, eP, eQ, eR, eS, eT, eU⟩ := cells6 b.out
      try go_wp2_with (first | ((with_reducible refine gate_callee (f := 25) rfl ?_); refine goesL_ (some 26) rfl rfl Tryd.func25 (by kernel_rfl) rfl #[.agg #[.int .i64 y, .int .i64 z, .slice ac u.length ad, .int .i64 A, .bool B, .bool D]] rfl ag_ ?_; (with_reducible refine (shutterref10_Copy.calls y z _ _ u A B D T U I W X Y _ ?side1 ?side2 dh.out).mono ?_); (case side1 => repeat (first | exact (Kd.C_below aI.out HB.out) | (with_reducible apply pC))); (case side2 => exact aH.out); rintro e hS ⟨dE, rfl, aC, hb⟩; refine ⟨_, rfl, ?_⟩; have q := Z (Kd.R_lower aC (below_size bl_)); replace b := Z (kb b.out hb); replace HB := Z (below_step bl_ hb); (try clear hb); (try clear aT); (try clear hk); (try clear hi); (try clear aC)) | ((with_reducible refine gate_dst (N := 7) rfl ?_); refine bx_ 7 24 #[.int .i64 0, .int .i64 0, .slice none 0 0, .int .i64 0, .bool false, .bool false] ?_; intro l hg w64 hbox hb; replace q := Z (rb q.out hb); have m := Z (hbox); have aU := Z (ln_ hg : w.heap.size ≤ l); have da := Z (ln_ hg : w.heap.size ≤ l); replace HB := Z (below_step bl_ hb); have aB := Z (nl b.out hg); have aP := Z (ng b.out hg); replace b := Z (kb b.out hb); clear hb hbox hg; have gW := aP.out; have g5 := aB.out; obtain ⟨d9, ea, eb, ec, ed, ee, eV, eW, eX, eY, eZ, e0⟩ := cells6 m.out; obtain ⟨ao, ah, dw⟩ := Kd.R_slice q.out; subst dw))
      have E : Aside0 (Kd.R k44 44 ((((((w64.setCell ⟨l, 0, none⟩ (.int .i64 T)).setCell ⟨l, 1, none⟩ (.int .i64 U)).setCell ⟨l, 2, none⟩ (.slice ao I.length ah)).setCell ⟨l, 3, none⟩ (.int .i64 W)).setCell ⟨l, 4, none⟩ (.bool X)).setCell ⟨l, 5, none⟩ (.bool Y)) w.heap.size (fun _ => True) (.slice ao I.length ah) I) := ⟨by (with_reducible repeat apply pR); exact Kd.R_mono (f6R l (Kd.R_types q.out m.out (by decide)) (fun _ hk => hk.2)) (fun _ hk => trivial)⟩
      have F : Aside0 (((((((w64.setCell ⟨l, 0, none⟩ (.int .i64 T)).setCell ⟨l, 1, none⟩ (.int .i64 U)).setCell ⟨l, 2, none⟩ (.slice ao I.length ah)).setCell ⟨l, 3, none⟩ (.int .i64 W)).setCell ⟨l, 4, none⟩ (.bool X)).setCell ⟨l, 5, none⟩ (.bool Y)).heap[s]? = some (.cells #[.int .i64 y, .int .i64 z, .slice ac u.length ad, .int .i64 A, .bool B, .bool D] 24 (0, 0))) := ⟨by (with_reducible repeat apply pK); exact blk_off b.out aB.out off2_⟩
      have P : Aside0 (((((((w64.setCell ⟨l, 0, none⟩ (.int .i64 T)).setCell ⟨l, 1, none⟩ (.int .i64 U)).setCell ⟨l, 2, none⟩ (.slice ao I.length ah)).setCell ⟨l, 3, none⟩ (.int .i64 W)).setCell ⟨l, 4, none⟩ (.bool X)).setCell ⟨l, 5, none⟩ (.bool Y)).heap[l]? = some (.cells #[.int .i64 T, .int .i64 U, .slice ao I.length ah, .int .i64 W, .bool X, .bool Y] 24 (0, 0))) := ⟨put6 m.out⟩
      have Q : Aside0 (Below w.heap.size w ((((((w64.setCell ⟨l, 0, none⟩ (.int .i64 T)).setCell ⟨l, 1, none⟩ (.int .i64 U)).setCell ⟨l, 2, none⟩ (.slice ao I.length ah)).setCell ⟨l, 3, none⟩ (.int .i64 W)).setCell ⟨l, 4, none⟩ (.bool X)).setCell ⟨l, 5, none⟩ (.bool Y))) := ⟨bl_⟩
      (try clear q)
      (try clear b)
      (try clear m)
      (try clear HB)
      generalize ((((((w64.setCell ⟨l, 0, none⟩ (.int .i64 T)).setCell ⟨l, 1, none⟩ (.int .i64 U)).setCell ⟨l, 2, none⟩ (.slice ao I.length ah)).setCell ⟨l, 3, none⟩ (.int .i64 W)).setCell ⟨l, 4, none⟩ (.bool X)).setCell ⟨l, 5, none⟩ (.bool Y)) = gz at E F P Q ⊢
      have q := E
      have b := F
      have m := P
      have HB := Q
      clear E F P Q
      have E := Z (Kd.R_drew q.out)
      have F := Z (blk_drew b.out)
      have P := Z (blk_drew m.out)
      have Q := Z (below_drew1 HB.out)
      clear q
      clear b
      clear m
      clear HB
      have q := E
      have b := F
      have m := P
      have HB := Q
      clear E F P Q
      refine start_ (n := 17) (S := fun w' => w'.cell? ⟨s, 0, none⟩ = some (.int .i64 y) ∧ w'.cell? ⟨s, 1, none⟩ = some (.int .i64 z) ∧ w'.cell? ⟨s, 2, none⟩ = some (.slice ac u.length ad) ∧ w'.cell? ⟨s, 3, none⟩ = some (.int .i64 A) ∧ w'.cell? ⟨s, 4, none⟩ = some (.bool B) ∧ w'.cell? ⟨s, 5, none⟩ = some (.bool D)) (ds := []) (bv 17 0) (by kernel_rfl) rfl rfl ⟨(blk_cell b.out 0).trans rfl, (blk_cell b.out 1).trans rfl, (blk_cell b.out 2).trans rfl, (blk_cell b.out 3).trans rfl, (blk_cell b.out 4).trans rfl, (blk_cell b.out 5).trans rfl⟩ (fun hHeld => ?_); refine with_tabW shutterlaw12_PaintKeeps.tab4 shutterlaw12_PaintKeeps.bits4 (fun HT_ HW_ => ?_)
      generalize gz.drew = hT at q b m HB hHeld ⊢
      refine pure_ (i := 1) (N := some 29) (v := ?_) (a' := ?_) (bv 17 2) rfl rfl (any_of HT_.out (by kernel_rfl)) (fun _ _ _ h => h) (Or.inl ⟨by rfl, ?_⟩) ?_ ?_
      rotate_left
      ·intro w'
       go_simp
       with_reducible rfl
      rotate_left
      ·simp only [Act.put, sA, sB, sC, i64_w, i32_w]
       rfl
      refine pure_ (i := 2) (N := some 30) (v := ?_) (a' := ?_) (bv 17 6) rfl rfl (any_of HT_.out (by kernel_rfl)) (fun _ _ _ h => h) (Or.inl ⟨by rfl, ?_⟩) ?_ ?_
      rotate_left
      ·intro w'
       go_simp
       with_reducible rfl
      rotate_left
      ·simp only [Act.put, sA, sB, sC, i64_w, i32_w]
       rfl
      refine pure_ (i := 3) (N := some 31) (v := ?_) (a' := ?_) (bv 17 14) rfl rfl (any_of HT_.out (by kernel_rfl)) (fun _ _ _ h => h) (Or.inl ⟨by rfl, ?_⟩) ?_ ?_
      rotate_left
      ·intro w'
       go_simp
       with_reducible rfl
      rotate_left
      ·simp only [Act.put, sA, sB, sC, i64_w, i32_w]
       rfl
      refine pure_ (i := 7) (N := some 35) (v := ?_) (a' := ?_) (bv 17 142) rfl rfl (any_of HT_.out (by kernel_rfl)) (fun _ _ _ h => h) (Or.inl ⟨by rfl, ?_⟩) ?_ ?_
      rotate_left
      ·intro w'
       go_simp
       with_reducible rfl
      rotate_left
      ·simp only [Act.put, sA, sB, sC, i64_w, i32_w]
       rfl
      refine take_ (i := 0) (N := some 28) (v := ?_) (a' := ?_) (bv 17 143) rfl rfl (take_ofW HT_.out HW_.out (by kernel_rfl)) (fun _ _ _ h => h) (Or.inl ⟨by rfl, ?_⟩) hHeld ?_ ?_
      rotate_left
      ·rintro w' ⟨s0, s1, s2, s3, s4, s5⟩
       go_simp
       with_reducible rfl
      rotate_left
      ·simp only [Act.put, sA, sB, sC, i64_w, i32_w]
       rfl
      refine take_ (i := 4) (N := some 32) (v := ?_) (a' := ?_) (bv 17 159) rfl rfl (take_ofW HT_.out HW_.out (by kernel_rfl)) (fun _ _ _ h => h) (Or.inl ⟨by rfl, ?_⟩) hHeld ?_ ?_
      rotate_left
      ·rintro w' ⟨s0, s1, s2, s3, s4, s5⟩
       go_simp
       with_reducible rfl
      rotate_left
      ·simp only [Act.put, sA, sB, sC, i64_w, i32_w]
       rfl
      refine pure_ (i := 5) (N := some 33) (v := ?_) (a' := ?_) (bv 17 191) rfl rfl (any_of HT_.out (by kernel_rfl)) (fun _ _ _ h => h) (Or.inl ⟨by rfl, ?_⟩) ?_ ?_
      rotate_left
      ·intro w'
       go_simp
       with_reducible rfl
      rotate_left
      ·simp only [Act.put, sA, sB, sC, i64_w, i32_w]
       rfl
      refine pure_ (i := 6) (N := some 34) (v := ?_) (a' := ?_) (bv 17 255) rfl rfl (any_of HT_.out (by kernel_rfl)) (fun _ _ _ h => h) (Or.inl ⟨by rfl, ?_⟩) ?_ ?_
      rotate_left
      ·intro w'
       go_simp
       with_reducible rfl
      rotate_left
      ·simp only [Act.put, sA, sB, sC, i64_w, i32_w]
       rfl
      refine join_ (σ := Value × Value × Nat) 3 (bv 17 16383) (fun s_ => [(36, .tuple #[.agg #[.int .i64 ai, .int .i64 aj, s_.1, .int .i64 ak, .bool al, .bool am], .int .i64 aR, errW s_.2.1 (some a3)]), (8, .pointer (some ⟨s_.2.2, 0, none⟩)), (27, .tuple #[.agg #[.int .i64 ai, .int .i64 aj, s_.1, .int .i64 ak, .bool al, .bool am], .int .i64 aR, errW s_.2.1 (some a3)]), (37, .agg #[.int .i64 ai, .int .i64 aj, s_.1, .int .i64 ak, .bool al, .bool am]), (38, .int .i64 aR), (39, errW s_.2.1 (some a3))]) (fun s_ w' => (w'.cell? ⟨s, 0, none⟩ = some (.int .i64 y) ∧ w'.cell? ⟨s, 1, none⟩ = some (.int .i64 z) ∧ w'.cell? ⟨s, 2, none⟩ = some (.slice ac u.length ad) ∧ w'.cell? ⟨s, 3, none⟩ = some (.int .i64 A) ∧ w'.cell? ⟨s, 4, none⟩ = some (.bool B) ∧ w'.cell? ⟨s, 5, none⟩ = some (.bool D)) ∧ (Kd.R k44 44 w' w.heap.size (fun _ => True) (.slice ao I.length ah) I) ∧ (Kd.V k44 44 w' w.heap.size (fun k_ => some k_ ≠ (.slice ao I.length ah : Value).ownBlock ∧ k_ ≠ s ∧ k_ ≠ l ∧ k_ ≠ s_.2.2) s_.1 au) ∧ (Kd.V k184 184 w' w.heap.size (fun k_ => some k_ ≠ (.slice ao I.length ah : Value).ownBlock ∧ k_ ≠ s ∧ k_ ≠ l ∧ k_ ≠ s_.2.2) s_.2.1 a0) ∧ (w'.heap[s]? = some (.cells #[.int .i64 y, .int .i64 z, .slice ac u.length ad, .int .i64 A, .bool B, .bool D] 24 (0, 0))) ∧ (w'.heap[l]? = some (.cells #[.int .i64 T, .int .i64 U, .slice ao I.length ah, .int .i64 W, .bool X, .bool Y] 24 (0, 0))) ∧ (w'.heap[s_.2.2]? = some (.cells #[.int .i64 0, .int .i64 0, .slice none 0 0, .int .i64 0, .bool false, .bool false] 24 (0, 0))) ∧ (w.heap.size ≤ s_.2.2) ∧ (w.heap.size ≤ s_.2.2) ∧ (s ≠ s_.2.2) ∧ (s_.2.2 ≠ s) ∧ (l ≠ s_.2.2) ∧ (s_.2.2 ≠ l) ∧ (Below w.heap.size w w')) ?_ ?_
      rotate_left
      ·intro hCont
       refine two_ (i := 8) (j := 13) (Ni := some 36) (Nj := some 8) (bv 17 511) (bv 17 8447) rfl rfl rfl rfl (two_of HT_.out (by kernel_rfl)) (by decide) (by decide) (fun K hK => ?_) (fun K hK => ?_)
       ·skip
        refine goes_ Tryd.func24 (by kernel_rfl) rfl #[.agg #[.int .i64 y, .int .i64 z, .slice ac u.length ad, .int .i64 A, .bool B, .bool D], .int .i64 (Int.tmod (wrap64 (a1)) (u.length : Int)), .slice A2 l2.length c2] (by rfl) rfl rfl ag_ ?_
        with_reducible refine (paint_All.calls aD y z (fun k_ => k_ < w.heap.size) _ _ u A B D (Int.tmod (wrap64 (a1)) (u.length : Int)) _ _ l2 ai aj au ak al am aR (some a3) a0 _ ?side1 ?side2 ?side3 b1.out).mono ?_
        (case side1 => exact Kd.V_mk aH.out (Kd.F_below (Kd.C_F k44_heap aI.out) bl_))
        (case side2 => repeat (first | exact (Kd.C_below bI.out HB.out) | (with_reducible apply pC)))
        (case side3 => exact bH.out)
        rintro e gA ⟨aA, aO, rfl, aC, aY, hb⟩
        refine ⟨_, rfl, ?_⟩
        have E := Z (rb q.out hb)
        have F := Z (Kd.V_lower (Kd.V_mono (ok' := fun k_ => some k_ ≠ (.slice ao I.length ah : Value).ownBlock ∧ k_ ≠ s ∧ k_ ≠ l) aC (fun k_ hk_ => ⟨Or.elim hk_ (fun hs_ => fun e_ => Nat.not_le.2 hs_ (Kd.R_base q.out k_ e_.symm)) (fun hn_ => (Kd.fresh' (Kd.R_lt (by (with_reducible repeat apply pR); exact q.out)) k_ hn_)), Or.elim hk_ (fun hs_ => fun e_ => Nat.not_le.2 hs_ (by rw [e_]; exact a2.out)) (fun hn_ => (fb b.out k_ hn_)), Or.elim hk_ (fun hs_ => fun e_ => Nat.not_le.2 hs_ (by rw [e_]; exact aU.out)) (fun hn_ => (fb m.out k_ hn_))⟩)) (below_size bl_))
        have P := Z (Kd.V_lower (Kd.V_mono (ok' := fun k_ => some k_ ≠ (.slice ao I.length ah : Value).ownBlock ∧ k_ ≠ s ∧ k_ ≠ l) aY (fun k_ hk_ => ⟨Or.elim hk_ (fun hs_ => fun e_ => Nat.not_le.2 hs_ (Kd.R_base q.out k_ e_.symm)) (fun hn_ => (Kd.fresh' (Kd.R_lt (by (with_reducible repeat apply pR); exact q.out)) k_ hn_)), Or.elim hk_ (fun hs_ => fun e_ => Nat.not_le.2 hs_ (by rw [e_]; exact a2.out)) (fun hn_ => (fb b.out k_ hn_)), Or.elim hk_ (fun hs_ => fun e_ => Nat.not_le.2 hs_ (by rw [e_]; exact aU.out)) (fun hn_ => (fb m.out k_ hn_))⟩)) (below_size bl_))
        have Q := Z (kb b.out hb)
        have aa := Z (kb m.out hb)
        have ab := Z (below_step bl_ hb)
        clear q
        clear b
        clear m
        clear HB
        have q := E
        have ae := F
        have an := P
        have b := Q
        have m := aa
        have HB := ab
        clear E F P Q aa ab
        (try clear hb)
        (try clear aT)
        (try clear hk)
        (try clear hi)
        (try clear aC)
        (try clear aY)
        (try simp only [errW_none, errW_some])
        refine hK.out _ _ ⟨(blk_cell b.out 0).trans rfl, (blk_cell b.out 1).trans rfl, (blk_cell b.out 2).trans rfl, (blk_cell b.out 3).trans rfl, (blk_cell b.out 4).trans rfl, (blk_cell b.out 5).trans rfl⟩ (fun hHeld => ?_)
        clear hK K
        refine norm_ (a' := ?_) ?_ ?_
        rotate_left
        ·show Act.put _ (some 36) _ = _
         simp only [Act.put, sA, sB, sC, i64_w, i32_w]
         rfl
        refine pure_ (i := 9) (N := some 27) (v := ?_) (a' := ?_) (bv 17 1023) rfl rfl (any_of HT_.out (by kernel_rfl)) (fun _ _ _ h => h) (Or.inl ⟨by rfl, ?_⟩) ?_ ?_
        rotate_left
        ·intro w'
         go_simp
         with_reducible rfl
        rotate_left
        ·simp only [Act.put, sA, sB, sC, i64_w, i32_w]
         rfl
        refine pure_ (i := 10) (N := some 37) (v := ?_) (a' := ?_) (bv 17 2047) rfl rfl (any_of HT_.out (by kernel_rfl)) (fun _ _ _ h => h) (Or.inl ⟨by rfl, ?_⟩) ?_ ?_
        rotate_left
        ·intro w'
         go_simp
         with_reducible rfl
        rotate_left
        ·simp only [Act.put, sA, sB, sC, i64_w, i32_w]
         rfl
        refine pure_ (i := 11) (N := some 38) (v := ?_) (a' := ?_) (bv 17 4095) rfl rfl (any_of HT_.out (by kernel_rfl)) (fun _ _ _ h => h) (Or.inl ⟨by rfl, ?_⟩) ?_ ?_
        rotate_left
        ·intro w'
         go_simp
         with_reducible rfl
        rotate_left
        ·simp only [Act.put, sA, sB, sC, i64_w, i32_w]
         rfl
        refine pure_ (i := 12) (N := some 39) (v := ?_) (a' := ?_) (bv 17 8191) rfl rfl (any_of HT_.out (by kernel_rfl)) (fun _ _ _ h => h) (Or.inl ⟨by rfl, ?_⟩) ?_ ?_
        rotate_left
        ·intro w'
         go_simp
         with_reducible rfl
        rotate_left
        ·simp only [Act.put, sA, sB, sC, i64_w, i32_w]
         rfl
        refine one_ (i := 13) (N := some 8) (bv 17 16383) rfl rfl (one_of HT_.out (by kernel_rfl)) (by decide) (fun K hK => ?_)
        refine box_step ?hg (N := 8) ?hd (cs := #[.int .i64 0, .int .i64 0, .slice none 0 0, .int .i64 0, .bool false, .bool false]) (t := 24) ?hr ?_; (case hd => rfl); (case hg => rfl); (case hr => first | (go_simp; done) | (go_simp; rfl))
        intro d hg gB hbox hb
        have E := Z (rb q.out hb)
        have F := Z (ve ae.out hg hb)
        have P := Z (ve an.out hg hb)
        have Q := Z (kb b.out hb)
        have aa := Z (kb m.out hb)
        have ab := Z (below_step bl_ hb)
        have ag := Z (hbox)
        have aw := Z (ln_ hg : w.heap.size ≤ d)
        have aJ := Z (ln_ hg : w.heap.size ≤ d)
        have aK := Z (nl b.out hg)
        have av := Z (ng b.out hg)
        have aM := Z (nl m.out hg)
        have aN := Z (ng m.out hg)
        clear q
        clear ae
        clear an
        clear b
        clear m
        clear HB
        have q := E
        have ae := F
        have an := P
        have b := Q
        have m := aa
        have HB := ab
        have x := ag
        have ay := aw
        have aL := aJ
        have a := aK
        have J := av
        have G := aM
        have L := aN
        clear E F P Q aa ab ag aw aJ aK av aM aN
        clear hb hbox hg
        refine hK.out _ _ ⟨(blk_cell b.out 0).trans rfl, (blk_cell b.out 1).trans rfl, (blk_cell b.out 2).trans rfl, (blk_cell b.out 3).trans rfl, (blk_cell b.out 4).trans rfl, (blk_cell b.out 5).trans rfl⟩ (fun hHeld => ?_)
        clear hK K
        refine norm_ (a' := ?_) ?_ ?_
        rotate_left
        ·show Act.put _ (some 8) _ = _
         simp only [Act.put, sA, sB, sC, i64_w, i32_w]
         rfl
        exact norm_ (by simp only [putAll, Act.put, sA, sB, sC, errW_none, errW_some]) (hCont (aA, aO, d) _ ⟨hHeld, (by (with_reducible repeat apply pR); exact q.out), (by (with_reducible repeat apply pV); exact Kd.V_mono ae.out (fun _ hk => ⟨hk.1.1, ⟨hk.1.2.1, ⟨hk.1.2.2, hk.2⟩⟩⟩)), (by (with_reducible repeat apply pV); exact Kd.V_mono an.out (fun _ hk => ⟨hk.1.1, ⟨hk.1.2.1, ⟨hk.1.2.2, hk.2⟩⟩⟩)), (vK b.out), (vK m.out), (vK x.out), ay.out, aL.out, a.out, J.out, G.out, L.out, bl_⟩)
       ·skip
        refine box_step ?hg (N := 8) ?hd (cs := #[.int .i64 0, .int .i64 0, .slice none 0 0, .int .i64 0, .bool false, .bool false]) (t := 24) ?hr ?_; (case hd => rfl); (case hg => rfl); (case hr => first | (go_simp; done) | (go_simp; rfl))
        intro d hg gA hbox hb
        have E := Z (rb q.out hb)
        have F := Z (kb b.out hb)
        have P := Z (kb m.out hb)
        have Q := Z (below_step bl_ hb)
        have aa := Z (hbox)
        have ab := Z (ln_ hg : w.heap.size ≤ d)
        have ag := Z (ln_ hg : w.heap.size ≤ d)
        have aw := Z (nl b.out hg)
        have aJ := Z (ng b.out hg)
        have aK := Z (nl m.out hg)
        have av := Z (ng m.out hg)
        clear q
        clear b
        clear m
        clear HB
        have q := E
        have b := F
        have m := P
        have HB := Q
        have x := aa
        have ay := ab
        have aL := ag
        have a := aw
        have J := aJ
        have G := aK
        have L := av
        clear E F P Q aa ab ag aw aJ aK av
        clear hb hbox hg
        refine hK.out _ _ ⟨(blk_cell b.out 0).trans rfl, (blk_cell b.out 1).trans rfl, (blk_cell b.out 2).trans rfl, (blk_cell b.out 3).trans rfl, (blk_cell b.out 4).trans rfl, (blk_cell b.out 5).trans rfl⟩ (fun hHeld => ?_)
        clear hK K
        refine norm_ (a' := ?_) ?_ ?_
        rotate_left
        ·show Act.put _ (some 8) _ = _
         simp only [Act.put, sA, sB, sC, i64_w, i32_w]
         rfl
        refine one_ (i := 8) (N := some 36) (bv 17 8703) rfl rfl (one_of HT_.out (by kernel_rfl)) (by decide) (fun K hK => ?_)
        refine goes_ Tryd.func24 (by kernel_rfl) rfl #[.agg #[.int .i64 y, .int .i64 z, .slice ac u.length ad, .int .i64 A, .bool B, .bool D], .int .i64 (Int.tmod (wrap64 (a1)) (u.length : Int)), .slice A2 l2.length c2] (by rfl) rfl rfl ag_ ?_
        with_reducible refine (paint_All.calls aD y z (fun k_ => k_ < w.heap.size) _ _ u A B D (Int.tmod (wrap64 (a1)) (u.length : Int)) _ _ l2 ai aj au ak al am aR (some a3) a0 _ ?side1 ?side2 ?side3 b1.out).mono ?_
        (case side1 => exact Kd.V_mk aH.out (Kd.F_below (Kd.C_F k44_heap aI.out) bl_))
        (case side2 => repeat (first | exact (Kd.C_below bI.out HB.out) | (with_reducible apply pC)))
        (case side3 => exact bH.out)
        rintro e gB ⟨aA, aO, rfl, aC, aY, hb⟩
        refine ⟨_, rfl, ?_⟩
        have E := Z (rb q.out hb)
        have F := Z (Kd.V_lower (Kd.V_mono (ok' := fun k_ => some k_ ≠ (.slice ao I.length ah : Value).ownBlock ∧ k_ ≠ s ∧ k_ ≠ l ∧ k_ ≠ d) aC (fun k_ hk_ => ⟨Or.elim hk_ (fun hs_ => fun e_ => Nat.not_le.2 hs_ (Kd.R_base q.out k_ e_.symm)) (fun hn_ => (Kd.fresh' (Kd.R_lt (by (with_reducible repeat apply pR); exact q.out)) k_ hn_)), Or.elim hk_ (fun hs_ => fun e_ => Nat.not_le.2 hs_ (by rw [e_]; exact a2.out)) (fun hn_ => (fb b.out k_ hn_)), Or.elim hk_ (fun hs_ => fun e_ => Nat.not_le.2 hs_ (by rw [e_]; exact aU.out)) (fun hn_ => (fb m.out k_ hn_)), Or.elim hk_ (fun hs_ => fun e_ => Nat.not_le.2 hs_ (by rw [e_]; exact ay.out)) (fun hn_ => (fb x.out k_ hn_))⟩)) (below_size bl_))
        have P := Z (Kd.V_lower (Kd.V_mono (ok' := fun k_ => some k_ ≠ (.slice ao I.length ah : Value).ownBlock ∧ k_ ≠ s ∧ k_ ≠ l ∧ k_ ≠ d) aY (fun k_ hk_ => ⟨Or.elim hk_ (fun hs_ => fun e_ => Nat.not_le.2 hs_ (Kd.R_base q.out k_ e_.symm)) (fun hn_ => (Kd.fresh' (Kd.R_lt (by (with_reducible repeat apply pR); exact q.out)) k_ hn_)), Or.elim hk_ (fun hs_ => fun e_ => Nat.not_le.2 hs_ (by rw [e_]; exact a2.out)) (fun hn_ => (fb b.out k_ hn_)), Or.elim hk_ (fun hs_ => fun e_ => Nat.not_le.2 hs_ (by rw [e_]; exact aU.out)) (fun hn_ => (fb m.out k_ hn_)), Or.elim hk_ (fun hs_ => fun e_ => Nat.not_le.2 hs_ (by rw [e_]; exact ay.out)) (fun hn_ => (fb x.out k_ hn_))⟩)) (below_size bl_))
        have Q := Z (kb b.out hb)
        have aa := Z (kb m.out hb)
        have ab := Z (kb x.out hb)
        have ag := Z (below_step bl_ hb)
        clear q
        clear b
        clear m
        clear x
        clear HB
        have q := E
        have ae := F
        have an := P
        have b := Q
        have m := aa
        have x := ab
        have HB := ag
        clear E F P Q aa ab ag
        (try clear hb)
        (try clear aT)
        (try clear hk)
        (try clear hi)
        (try clear aC)
        (try clear aY)
        (try simp only [errW_none, errW_some])
        refine hK.out _ _ ⟨(blk_cell b.out 0).trans rfl, (blk_cell b.out 1).trans rfl, (blk_cell b.out 2).trans rfl, (blk_cell b.out 3).trans rfl, (blk_cell b.out 4).trans rfl, (blk_cell b.out 5).trans rfl⟩ (fun hHeld => ?_)
        clear hK K
        refine norm_ (a' := ?_) ?_ ?_
        rotate_left
        ·show Act.put _ (some 36) _ = _
         simp only [Act.put, sA, sB, sC, i64_w, i32_w]
         rfl
        refine pure_ (i := 9) (N := some 27) (v := ?_) (a' := ?_) (bv 17 9215) rfl rfl (any_of HT_.out (by kernel_rfl)) (fun _ _ _ h => h) (Or.inl ⟨by rfl, ?_⟩) ?_ ?_
        rotate_left
        ·intro w'
         go_simp
         with_reducible rfl
        rotate_left
        ·simp only [Act.put, sA, sB, sC, i64_w, i32_w]
         rfl
        refine pure_ (i := 10) (N := some 37) (v := ?_) (a' := ?_) (bv 17 10239) rfl rfl (any_of HT_.out (by kernel_rfl)) (fun _ _ _ h => h) (Or.inl ⟨by rfl, ?_⟩) ?_ ?_
        rotate_left
        ·intro w'
         go_simp
         with_reducible rfl
        rotate_left
        ·simp only [Act.put, sA, sB, sC, i64_w, i32_w]
         rfl
        refine pure_ (i := 11) (N := some 38) (v := ?_) (a' := ?_) (bv 17 12287) rfl rfl (any_of HT_.out (by kernel_rfl)) (fun _ _ _ h => h) (Or.inl ⟨by rfl, ?_⟩) ?_ ?_
        rotate_left
        ·intro w'
         go_simp
         with_reducible rfl
        rotate_left
        ·simp only [Act.put, sA, sB, sC, i64_w, i32_w]
         rfl
        refine pure_ (i := 12) (N := some 39) (v := ?_) (a' := ?_) (bv 17 16383) rfl rfl (any_of HT_.out (by kernel_rfl)) (fun _ _ _ h => h) (Or.inl ⟨by rfl, ?_⟩) ?_ ?_
        rotate_left
        ·intro w'
         go_simp
         with_reducible rfl
        rotate_left
        ·simp only [Act.put, sA, sB, sC, i64_w, i32_w]
         rfl
        exact norm_ (by simp only [putAll, Act.put, sA, sB, sC, errW_none, errW_some]) (hCont (aA, aO, d) _ ⟨hHeld, (by (with_reducible repeat apply pR); exact q.out), (vV ae.out), (vV an.out), (vK b.out), (vK m.out), (vK x.out), ay.out, aL.out, a.out, J.out, G.out, L.out, bl_⟩)
      rintro ⟨aA, aO, d⟩ aF ⟨hS_, bM, bN, bO, bP, bQ, bR, bS, bT, bU, bV, ba, bb, bc⟩
      have E : Aside0 (Kd.R k44 44 aF w.heap.size (fun _ => True) (.slice ao I.length ah) I) := ⟨bM⟩
      have F : Aside0 (Kd.V k44 44 aF w.heap.size (fun k_ => some k_ ≠ (.slice ao I.length ah : Value).ownBlock ∧ k_ ≠ s ∧ k_ ≠ l ∧ k_ ≠ d) aA au) := ⟨bN⟩
      have P : Aside0 (Kd.V k184 184 aF w.heap.size (fun k_ => some k_ ≠ (.slice ao I.length ah : Value).ownBlock ∧ k_ ≠ s ∧ k_ ≠ l ∧ k_ ≠ d) aO a0) := ⟨bO⟩
      have Q : Aside0 (aF.heap[s]? = some (.cells #[.int .i64 y, .int .i64 z, .slice ac u.length ad, .int .i64 A, .bool B, .bool D] 24 (0, 0))) := ⟨bP⟩
      have aa : Aside0 (aF.heap[l]? = some (.cells #[.int .i64 T, .int .i64 U, .slice ao I.length ah, .int .i64 W, .bool X, .bool Y] 24 (0, 0))) := ⟨bQ⟩
      have ab : Aside0 (aF.heap[d]? = some (.cells #[.int .i64 0, .int .i64 0, .slice none 0 0, .int .i64 0, .bool false, .bool false] 24 (0, 0))) := ⟨bR⟩
      have ag : Aside0 (w.heap.size ≤ d) := ⟨bS⟩
      have aw : Aside0 (w.heap.size ≤ d) := ⟨bT⟩
      have aJ : Aside0 (s ≠ d) := ⟨bU⟩
      have aK : Aside0 (d ≠ s) := ⟨bV⟩
      have av : Aside0 (l ≠ d) := ⟨ba⟩
      have aM : Aside0 (d ≠ l) := ⟨bb⟩
      have aN : Aside0 (Below w.heap.size w aF) := ⟨bc⟩
      clear q
      clear b
      clear m
      clear HB
      clear bM bN bO bP bQ bR bS bT bU bV ba bb bc
      have q := E
      have ae := F
      have an := P
      have b := Q
      have m := aa
      have x := ab
      have ay := ag
      have aL := aw
      have a := aJ
      have J := aK
      have G := av
      have L := aM
      have HB := aN
      clear E F P Q aa ab ag aw aJ aK av aM aN
      have hHeld : aF.cell? ⟨s, 0, none⟩ = some (.int .i64 y) ∧ aF.cell? ⟨s, 1, none⟩ = some (.int .i64 z) ∧ aF.cell? ⟨s, 2, none⟩ = some (.slice ac u.length ad) ∧ aF.cell? ⟨s, 3, none⟩ = some (.int .i64 A) ∧ aF.cell? ⟨s, 4, none⟩ = some (.bool B) ∧ aF.cell? ⟨s, 5, none⟩ = some (.bool D) := hS_
      obtain ⟨a8, a9, cI⟩ := Kd.V_slice ae.out
      (first | subst cI | (injection cI with bK cJ bL; have cK := bK.symm; have cL := bL.symm; clear bK cJ bL; subst cK; subst cL))
      refine norm_ (a' := ?_) ?_ ?_
      rotate_left
      ·simp only [putAll, Act.put, sA, sB, sC]
       rfl
      refine one_ (i := 14) (N := none) (bv 17 32767) rfl rfl (one_of HT_.out (by kernel_rfl)) (by decide) (fun K hK => ?_)
      have hu : aF.cell? ⟨d, 0, none⟩ = some (.int .i64 0) := (blk_cell x.out 0).trans rfl
      have gK := blk_frozen x.out 0
      have fO := a.out
      have fP := G.out
      have fq := J.out
      have fr := L.out
      have hv : aF.cell? ⟨d, 1, none⟩ = some (.int .i64 0) := (blk_cell x.out 1).trans rfl
      have gL := blk_frozen x.out 1
      have fQ := a.out
      have fR := G.out
      have fs := J.out
      have ft := L.out
      have hx : aF.cell? ⟨d, 2, none⟩ = some (.slice none 0 0) := (blk_cell x.out 2).trans rfl
      have gM := blk_frozen x.out 2
      have fS := a.out
      have fT := G.out
      have fu := J.out
      have fv := L.out
      have hy : aF.cell? ⟨d, 3, none⟩ = some (.int .i64 0) := (blk_cell x.out 3).trans rfl
      have gN := blk_frozen x.out 3
      have fU := a.out
      have fV := G.out
      have fw := J.out
      have fx := L.out
      have hz : aF.cell? ⟨d, 4, none⟩ = some (.bool false) := (blk_cell x.out 4).trans rfl
      have gO := blk_frozen x.out 4
      have fW := a.out
      have fX := G.out
      have fy := J.out
      have fz := L.out
      have hA : aF.cell? ⟨d, 5, none⟩ = some (.bool false) := (blk_cell x.out 5).trans rfl
      have gP := blk_frozen x.out 5
      have fY := a.out
      have fZ := G.out
      have fA := J.out
      have fB := L.out
      refine skip_ (w1 := ?_) (by rfl) rfl ?_ ?_
      rotate_left
      ·go_simp
       rfl
      refine hK.out _ _ ⟨((cell_far (p := ⟨d, _, none⟩) a.out _).trans (((cell_far (p := ⟨d, _, none⟩) a.out _).trans (((cell_far (p := ⟨d, _, none⟩) a.out _).trans (((cell_far (p := ⟨d, _, none⟩) a.out _).trans (((cell_far (p := ⟨d, _, none⟩) a.out _).trans (((cell_far (p := ⟨d, _, none⟩) a.out _).trans (hHeld.1)))))))))))), ((cell_far (p := ⟨d, _, none⟩) a.out _).trans (((cell_far (p := ⟨d, _, none⟩) a.out _).trans (((cell_far (p := ⟨d, _, none⟩) a.out _).trans (((cell_far (p := ⟨d, _, none⟩) a.out _).trans (((cell_far (p := ⟨d, _, none⟩) a.out _).trans (((cell_far (p := ⟨d, _, none⟩) a.out _).trans (hHeld.2.1)))))))))))), ((cell_far (p := ⟨d, _, none⟩) a.out _).trans (((cell_far (p := ⟨d, _, none⟩) a.out _).trans (((cell_far (p := ⟨d, _, none⟩) a.out _).trans (((cell_far (p := ⟨d, _, none⟩) a.out _).trans (((cell_far (p := ⟨d, _, none⟩) a.out _).trans (((cell_far (p := ⟨d, _, none⟩) a.out _).trans (hHeld.2.2.1)))))))))))), ((cell_far (p := ⟨d, _, none⟩) a.out _).trans (((cell_far (p := ⟨d, _, none⟩) a.out _).trans (((cell_far (p := ⟨d, _, none⟩) a.out _).trans (((cell_far (p := ⟨d, _, none⟩) a.out _).trans (((cell_far (p := ⟨d, _, none⟩) a.out _).trans (((cell_far (p := ⟨d, _, none⟩) a.out _).trans (hHeld.2.2.2.1)))))))))))), ((cell_far (p := ⟨d, _, none⟩) a.out _).trans (((cell_far (p := ⟨d, _, none⟩) a.out _).trans (((cell_far (p := ⟨d, _, none⟩) a.out _).trans (((cell_far (p := ⟨d, _, none⟩) a.out _).trans (((cell_far (p := ⟨d, _, none⟩) a.out _).trans (((cell_far (p := ⟨d, _, none⟩) a.out _).trans (hHeld.2.2.2.2.1)))))))))))), ((cell_far (p := ⟨d, _, none⟩) a.out _).trans (((cell_far (p := ⟨d, _, none⟩) a.out _).trans (((cell_far (p := ⟨d, _, none⟩) a.out _).trans (((cell_far (p := ⟨d, _, none⟩) a.out _).trans (((cell_far (p := ⟨d, _, none⟩) a.out _).trans (((cell_far (p := ⟨d, _, none⟩) a.out _).trans (hHeld.2.2.2.2.2))))))))))))⟩ (fun hHeld => ?_)
      clear hK K
      refine pure_ (i := 15) (N := some 9) (v := ?_) (a' := ?_) (bv 17 65535) rfl rfl (any_of HT_.out (by kernel_rfl)) (fun _ _ _ h => h) (Or.inl ⟨by rfl, ?_⟩) ?_ ?_
      rotate_left
      ·intro w'
       go_simp
       with_reducible rfl
      rotate_left
      ·simp only [Act.put, sA, sB, sC, i64_w, i32_w]
       rfl
      refine pure_ (i := 16) (N := some 10) (v := ?_) (a' := ?_) (bv 17 131071) rfl rfl (any_of HT_.out (by kernel_rfl)) (fun _ _ _ h => h) (Or.inl ⟨by rfl, ?_⟩) ?_ ?_
      rotate_left
      ·intro w'
       go_simp
       with_reducible rfl
      rotate_left
      ·simp only [Act.put, sA, sB, sC, i64_w, i32_w]
       rfl
      refine done_ (done_of HT_.out (by kernel_rfl)) ?_
      try simp only [errW_none, errW_some]
      have gX := a.out
      have g6 := J.out
      obtain ⟨ef, eg, eh, ei, ej, ek, e1, e2, e3, e4, e5, e6⟩ := cells6 b.out
      have gY := G.out
      have g7 := L.out
      obtain ⟨el, em, en, eo, ep, eq, e7, e8, e9, fa, fc, fd⟩ := cells6 m.out
      try go_wp2_with (first | ((with_reducible refine gate_callee (f := 19) rfl ?_); refine goesL_ (some 44) rfl rfl Tryd.func19 (by kernel_rfl) rfl #[.agg #[.int .i64 y, .int .i64 z, .slice ac u.length ad, .int .i64 A, .bool B, .bool D], .agg #[.int .i64 T, .int .i64 U, .slice ao I.length ah, .int .i64 W, .bool X, .bool Y]] rfl ag_ ?_; (with_reducible refine (shutterref10_Same.calls aD y z _ _ u A B D T U _ _ I W X Y aS _ ?side1 ?side2 ?side3 ?side4 ge.out).mono ?_); (case side1 => exact Kd.C_below aI.out bl_); (case side2 => exact aH.out); (case side3 => refine (Kd.R_reads' (e := 44) (base := w.heap.size) (ok := fun k_ => True) (n := I.length) (c := ah) ?_).2.2; exact (by (with_reducible repeat apply pR); exact (Kd.R_mono (f6R d (Kd.R_types q.out x.out (by decide)) (fun _ hk => hk.2)) (fun _ h_ => h_.1)))); (case side4 => exact (Kd.R_reads' q.out).2.1); rintro e hU ⟨rfl, hb⟩; refine ⟨_, rfl, ?_⟩; replace q := Z (Kd.R_below (by (with_reducible repeat apply pR); exact (Kd.R_mono (f6R d (Kd.R_types q.out x.out (by decide)) (fun _ hk => hk.2)) (fun _ h_ => h_.1))) hb); replace ae := Z (Kd.V_below (by (with_reducible repeat apply pV); exact (Kd.V_mono (f6V d (Kd.V_mono ae.out (fun k_ hk => (⟨hk, hk.2.2.2⟩ : _ ∧ k_ ≠ d))) (fun _ hk => hk.2)) (fun _ h_ => h_.1))) hb); replace an := Z (Kd.V_below (by (with_reducible repeat apply pV); exact (Kd.V_mono (f6V d (Kd.V_mono an.out (fun k_ hk => (⟨hk, hk.2.2.2⟩ : _ ∧ k_ ≠ d))) (fun _ hk => hk.2)) (fun _ h_ => h_.1))) hb); replace b := Z (blk_below (g := s) (o := .cells #[.int .i64 y, .int .i64 z, .slice ac u.length ad, .int .i64 A, .bool B, .bool D] 24 (0, 0)) (by (with_reducible repeat apply pK); exact blk_off b.out a.out off2_) hb); replace m := Z (blk_below (g := l) (o := .cells #[.int .i64 T, .int .i64 U, .slice ao I.length ah, .int .i64 W, .bool X, .bool Y] 24 (0, 0)) (by (with_reducible repeat apply pK); exact blk_off m.out G.out off2_) hb); replace x := Z (blk_below (g := d) (o := .cells #[.int .i64 ai, .int .i64 aj, .slice a8 au.length a9, .int .i64 ak, .bool al, .bool am] 24 (0, 0)) (put6 x.out) hb); replace HB := Z (below_step bl_ hb); (try clear hb); (try clear aT); (try clear hk); (try clear hi)))
      go_ret
      exact ⟨er_, bl_⟩

end Go.Proofs.YtgboplhcjhlabaaDoor.P
