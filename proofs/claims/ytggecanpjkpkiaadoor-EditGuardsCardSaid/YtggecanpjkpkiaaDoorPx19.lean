
/- The functions of the seat's laws as plain Lean functions, and that Go's code comes to just their answers. Written by pp.py (wip/tools), a program of this session, on the kit's print. -/
import Derived.Test.YtggecanpjkpkiaaDoorPx0
import Derived.Test.YtggecanpjkpkiaaDoorPx2
import Derived.Test.YtggecanpjkpkiaaDoorPx3
import Derived.Test.YtggecanpjkpkiaaDoorPx4
import Derived.Test.YtggecanpjkpkiaaDoorPx9
import Derived.Test.YtggecanpjkpkiaaDoorPx10
import Derived.Test.YtggecanpjkpkiaaDoorPx13
import Derived.Test.YtggecanpjkpkiaaDoorPx14
namespace Go.Proofs.YtggecanpjkpkiaaDoor.P
open Go.RowKit Go.Proofs.YtggecanpjkpkiaaDoorW.PrintWords Go.Proofs.YtggecanpjkpkiaaDoorW.PrintLast Go.Proofs.YtggecanpjkpkiaaDoorW.PrintMore
attribute [local go_sem] max2_int min2_int max_two min_two max_three min_three max_four min_four   -- for this text's walks alone
attribute [local go_sem] Instr.field asAgg
set_option linter.unusedVariables false
set_option linter.unusedSimpArgs false

attribute [local go_sem high] eqA35
/-! ### shutterlaw14_EditGuards: function 11 -/
def shutterlaw14_EditGuards.l0 : Nat → Int → Int → Int → Int → Int → List (S35) → Int → Bool → Bool → Int → Int → List (S35) → Int → Bool → Bool → Option (Bool)
 | 0, _, _, _, _, _, _, _, _, _, _, _, _, _, _, _ => none
 | k + 1, q, p, d, g, h, b, c, i, e, m, n, a, o, j, l => if d < (b.length : Int) then (if d = p then (if 0 ≤ d then (if d < (a.length : Int) then (if ((rd_T35 a d).f0 = true) then (if ((rd_T35 a d).f1.f3 = true) then (if (!(((rd_T35 a d).f0) == ((rd_T35 b d).f0)) || ((!(((rd_T35 a d).f1.f0) == ((rd_T35 b d).f1.f0)) || (!(((rd_T35 a d).f1.f1) == ((rd_T35 b d).f1.f1)) || (!(((rd_T35 a d).f1.f2) == ((rd_T35 b d).f1.f2))))) || (!(((rd_T35 a d).f2) == ((rd_T35 b d).f2))))) = true then (none) else (shutterlaw14_EditGuards.l0 k q p (wrap64 (d + 1)) g h b c i e m n a o j l)) else (none)) else (none)) else (none)) else (none)) else (if 0 ≤ d then (if d < (a.length : Int) then (if (!(((rd_T35 a d).f0) == ((rd_T35 b d).f0)) || ((!(((rd_T35 a d).f1.f0) == ((rd_T35 b d).f1.f0)) || (!(((rd_T35 a d).f1.f1) == ((rd_T35 b d).f1.f1)) || (!(((rd_T35 a d).f1.f2) == ((rd_T35 b d).f1.f2)) || (!(((rd_T35 a d).f1.f3) == ((rd_T35 b d).f1.f3)))))) || (!(((rd_T35 a d).f2) == ((rd_T35 b d).f2))))) = true then ((shutterref11_Begin.f k g h b c i e d).bind fun r => (if r = p then ((shutterref11_Open.f k g h b c i e d).bind fun s => (if s = true then (if e = true then (shutterlaw14_EditGuards.l0 k q p (wrap64 (d + 1)) g h b c i e m n a o j l) else (if d = c then (shutterlaw14_EditGuards.l0 k q p (wrap64 (d + 1)) g h b c i e m n a o j l) else (none))) else (none))) else (none))) else (shutterlaw14_EditGuards.l0 k q p (wrap64 (d + 1)) g h b c i e m n a o j l)) else (none)) else (none))) else (if 0 ≤ c then (if c < (a.length : Int) then (if ((rd_T35 a c).f2) = q then (if (l == e) = true then (some (!j)) else (none)) else (none)) else (none)) else (none))
def shutterlaw14_EditGuards.f (k : Nat) (e : Int) (g : Int) (d : List (S35)) (b : Int) (c : Bool) (h : Bool) (a1 : Int) : Option (Bool) := (shutterlaw14_awake.f k).bind fun i => (if i = true then ((shutterref10_Few.f k e g d b c h).bind fun j => (if j = true then ((edit_Type.f k e g d b c h a1).bind fun a => ((shutterref10_Right.f k a.1 a.2.1 a.2.2.1 a.2.2.2.1 a.2.2.2.2.1 a.2.2.2.2.2.1).bind fun m => (if m = true then (if (a.2.2.1.length : Int) = (d.length : Int) then (if a.2.2.2.2.2.2.1.isNone = true then ((shutterref11_Begin.f k e g d b c h b).bind fun n => (shutterlaw14_EditGuards.l0 k a1 n 0 e g d b c h a.1 a.2.1 a.2.2.1 a.2.2.2.1 a.2.2.2.2.1 a.2.2.2.2.2.1)) else ((shutterref10_Same.f k a.1 a.2.1 a.2.2.1 a.2.2.2.1 c a.2.2.2.2.2.1 e g d b c h).bind fun o => (if o = true then (if (a.2.2.2.2.1 == c) = true then (some true) else ((api_Where.f (some (a.2.2.2.2.2.2.1.getD ez)) a.2.2.2.2.2.2.2).bind fun p => (some (p == b)))) else (none)))) else (none)) else (none)))) else ((shutterlaw14_awake.f k).bind fun l => (some l)))) else (none))
theorem shutterlaw14_EditGuards.mono_l : ∀ k, (∀ g i j l m n o p q s a b c d e, LeO (shutterlaw14_EditGuards.l0 k g i j l m n o p q s a b c d e) (shutterlaw14_EditGuards.l0 (k + 1) g i j l m n o p q s a b c d e))
 | 0 => fun _ _ _ _ _ _ _ _ _ _ _ _ _ _ _ r h => by simp [shutterlaw14_EditGuards.l0] at h
 | k + 1 => by
  have f := shutterlaw14_EditGuards.mono_l k
  ·intro g i j l m n o p q s a b c d e
   unfold shutterlaw14_EditGuards.l0
   repeat' first
   | (with_reducible exact f _ _ _ _ _ _ _ _ _ _ _ _ _ _ _)
   | (with_reducible exact edit_Type.mono _ _ _ _ _ _ _ _)
   | (with_reducible exact shutterlaw14_awake.mono _)
   | (with_reducible exact shutterref10_Few.mono _ _ _ _ _ _ _)
   | (with_reducible exact shutterref10_Right.mono _ _ _ _ _ _ _)
   | (with_reducible exact shutterref10_Same.mono _ _ _ _ _ _ _ _ _ _ _ _ _)
   | (with_reducible exact shutterref11_Begin.mono _ _ _ _ _ _ _ _)
   | (with_reducible exact shutterref11_Open.mono _ _ _ _ _ _ _ _)
   | (with_reducible exact LeO.refl _)
   | (with_reducible exact LeO.none _)
   | (with_reducible refine LeO.ite ?_ ?_)
   | (with_reducible refine LeO.bind ?_ (fun _ => ?_))
   | exact f _ _ _ _ _ _ _ _ _ _ _ _ _ _ _
   | exact edit_Type.mono _ _ _ _ _ _ _ _
   | exact shutterlaw14_awake.mono _
   | exact shutterref10_Few.mono _ _ _ _ _ _ _
   | exact shutterref10_Right.mono _ _ _ _ _ _ _
   | exact shutterref10_Same.mono _ _ _ _ _ _ _ _ _ _ _ _ _
   | exact shutterref11_Begin.mono _ _ _ _ _ _ _ _
   | exact shutterref11_Open.mono _ _ _ _ _ _ _ _
   | exact LeO.none _
   | refine LeO.ite ?_ ?_
   | refine LeO.bind ?_ (fun _ => ?_)
theorem shutterlaw14_EditGuards.mono : ∀ a0 a1 b c a4 d e k, LeO (shutterlaw14_EditGuards.f k a0 a1 b c a4 d e) (shutterlaw14_EditGuards.f (k + 1) a0 a1 b c a4 d e) := by
 intro a0 a1 b c a4 d e k
 have a := shutterlaw14_EditGuards.mono_l k
 unfold shutterlaw14_EditGuards.f
 repeat' first
   | (with_reducible exact a _ _ _ _ _ _ _ _ _ _ _ _ _ _ _)
   | (with_reducible exact edit_Type.mono _ _ _ _ _ _ _ _)
   | (with_reducible exact shutterlaw14_awake.mono _)
   | (with_reducible exact shutterref10_Few.mono _ _ _ _ _ _ _)
   | (with_reducible exact shutterref10_Right.mono _ _ _ _ _ _ _)
   | (with_reducible exact shutterref10_Same.mono _ _ _ _ _ _ _ _ _ _ _ _ _)
   | (with_reducible exact shutterref11_Begin.mono _ _ _ _ _ _ _ _)
   | (with_reducible exact shutterref11_Open.mono _ _ _ _ _ _ _ _)
   | (with_reducible exact LeO.refl _)
   | (with_reducible exact LeO.none _)
   | (with_reducible refine LeO.ite ?_ ?_)
   | (with_reducible refine LeO.bind ?_ (fun _ => ?_))
   | exact a _ _ _ _ _ _ _ _ _ _ _ _ _ _ _
   | exact edit_Type.mono _ _ _ _ _ _ _ _
   | exact shutterlaw14_awake.mono _
   | exact shutterref10_Few.mono _ _ _ _ _ _ _
   | exact shutterref10_Right.mono _ _ _ _ _ _ _
   | exact shutterref10_Same.mono _ _ _ _ _ _ _ _ _ _ _ _ _
   | exact shutterref11_Begin.mono _ _ _ _ _ _ _ _
   | exact shutterref11_Open.mono _ _ _ _ _ _ _ _
   | exact LeO.none _
   | refine LeO.ite ?_ ?_
   | refine LeO.bind ?_ (fun _ => ?_)
def shutterlaw14_EditGuards.T9 : Bool × List (List Nat × List Nat) := (true, [([], []), ([], []), ([0, 1], [0, 1]), ([2, 2], [2]), ([3], [3]), ([4, 3], [3, 4]), ([3], [3]), ([6, 3], [3, 6]), ([5, 7, 3], [3, 5, 7]), ([8, 3, 3], [3, 8]), ([9], [9]), ([10, 9, 9], [9, 10]), ([9], [9]), ([12, 9], [9, 12]), ([11, 13, 9], [9, 11, 13]), ([9, 14, 3], [3, 9, 14]), ([3, 15], [3, 15]), ([16, 11, 0, 1, 2, 3, 4, 5, 6, 7, 8, 9, 10, 11, 12, 13, 14, 15, 16], [16])])
def shutterlaw14_EditGuards.B9 : List Nat := [0, 0, 3, 7, 15, 31, 15, 79, 255, 511, 1023, 2047, 1023, 5119, 16383, 32767, 65535, 131071]
theorem shutterlaw14_EditGuards.tab9 : rtab .any (opsOf Tryd.f11 9) = shutterlaw14_EditGuards.T9 := by kernel_rfl
theorem shutterlaw14_EditGuards.bits9 : waitsOk shutterlaw14_EditGuards.T9.2 shutterlaw14_EditGuards.B9 = true := by kernel_rfl
def shutterlaw14_EditGuards.T21 : Bool × List (List Nat × List Nat) := (true, [([], []), ([0], [0]), ([], []), ([1, 2], [1, 2]), ([3], [3]), ([], []), ([5], [5]), ([], []), ([6, 7], [6, 7]), ([8], [8]), ([4, 9], [4, 9]), ([10], [10]), ([11], [11]), ([11], [11]), ([12, 13, 11, 11], [11, 12, 13]), ([11], [11]), ([14, 15, 11], [11, 14, 15]), ([16, 14, 11], [11, 16]), ([17], [17]), ([17], [17]), ([18, 19, 17, 17], [17, 18, 19]), ([20, 17], [17, 20]), ([17, 21, 11], [11, 17, 21]), ([22, 20, 11], [11, 22]), ([23], [23]), ([24, 23], [23, 24]), ([25, 23], [23, 25]), ([26, 23, 23], [23, 26]), ([27], [27]), ([27], [27]), ([29, 27], [27, 29]), ([28, 30, 27], [27, 28, 30]), ([27, 31, 23], [23, 27, 31]), ([23, 32, 11], [11, 23, 32]), ([11, 33], [11, 33])])
def shutterlaw14_EditGuards.B21 : List Nat := [0, 1, 0, 7, 15, 0, 32, 0, 224, 480, 1023, 2047, 4095, 4095, 16383, 4095, 65535, 131071, 262143, 262143, 1048575, 2097151, 4194303, 8388607, 16777215, 33554431, 67108863, 134217727, 268435455, 268435455, 805306367, 2147483647, 4294967295, 8589934591, 17179869183]
theorem shutterlaw14_EditGuards.tab21 : rtab .any (opsOf Tryd.f11 21) = shutterlaw14_EditGuards.T21 := by kernel_rfl
theorem shutterlaw14_EditGuards.bits21 : waitsOk shutterlaw14_EditGuards.T21.2 shutterlaw14_EditGuards.B21 = true := by kernel_rfl
set_option maxHeartbeats 8000000 in
set_option maxRecDepth 100000 in
theorem shutterlaw14_EditGuards.calls (k : Nat) (y : Int) (z : Int) (au : Option Addr) (aa : Nat) (d : List (S35)) (m : Int) (j : Bool) (A : Bool) (a1 : Int) (r : Bool) (w : World) (df : Kd.C k35 w au d.length d) (de : d.length ≤ aa) (hG : LaidG w) (h : shutterlaw14_EditGuards.f k y z d m j A a1 = some r) :
  Calls Tryd.prog 11 #[.agg #[.int .i64 y, .int .i64 z, .slice au d.length aa, .int .i64 m, .bool j, .bool A], .int .u8 a1] w fun e w' => e = .returned (.bool r) ∧ Below w.heap.size w w' := by
 have HG := Z hG
 clear hG
 have mO := Tryd.underlying24
 have mQ := Tryd.underlying35
 have mP := Tryd.underlying28
 have mR := Tryd.underlying52
 have ap := Z df
 have aH := Z de
 clear df de
 have HB := Z (Below.refl w.heap.size w)
 have H : ((shutterlaw14_awake.f k).bind fun cu => (if cu = true then ((shutterref10_Few.f k y z d m j A).bind fun bO => (if bO = true then ((edit_Type.f k y z d m j A a1).bind fun l => ((shutterref10_Right.f k l.1 l.2.1 l.2.2.1 l.2.2.2.1 l.2.2.2.2.1 l.2.2.2.2.2.1).bind fun a5 => (if a5 = true then (if (l.2.2.1.length : Int) = (d.length : Int) then (if l.2.2.2.2.2.2.1.isNone = true then ((shutterref11_Begin.f k y z d m j A m).bind fun T => (shutterlaw14_EditGuards.l0 k a1 T 0 y z d m j A l.1 l.2.1 l.2.2.1 l.2.2.2.1 l.2.2.2.2.1 l.2.2.2.2.2.1)) else ((shutterref10_Same.f k l.1 l.2.1 l.2.2.1 l.2.2.2.1 j l.2.2.2.2.2.1 y z d m j A).bind fun aD => (if aD = true then (if (l.2.2.2.2.1 == j) = true then (some true) else ((api_Where.f (some (l.2.2.2.2.2.2.1.getD ez)) l.2.2.2.2.2.2.2).bind fun aq => (some (aq == m)))) else (none)))) else (none)) else (none)))) else ((shutterlaw14_awake.f k).bind fun bh => (some bh)))) else (none))) = some r := h
 clear h
 replace H := Option.bind_eq_some_iff.mp H
 obtain ⟨cu, eU, H⟩ := H
 replace H : (if cu = true then ((shutterref10_Few.f k y z d m j A).bind fun bO => (if bO = true then ((edit_Type.f k y z d m j A a1).bind fun l => ((shutterref10_Right.f k l.1 l.2.1 l.2.2.1 l.2.2.2.1 l.2.2.2.2.1 l.2.2.2.2.2.1).bind fun a5 => (if a5 = true then (if (l.2.2.1.length : Int) = (d.length : Int) then (if l.2.2.2.2.2.2.1.isNone = true then ((shutterref11_Begin.f k y z d m j A m).bind fun T => (shutterlaw14_EditGuards.l0 k a1 T 0 y z d m j A l.1 l.2.1 l.2.2.1 l.2.2.2.1 l.2.2.2.2.1 l.2.2.2.2.2.1)) else ((shutterref10_Same.f k l.1 l.2.1 l.2.2.1 l.2.2.2.1 j l.2.2.2.2.2.1 y z d m j A).bind fun aD => (if aD = true then (if (l.2.2.2.2.1 == j) = true then (some true) else ((api_Where.f (some (l.2.2.2.2.2.2.1.getD ez)) l.2.2.2.2.2.2.2).bind fun aq => (some (aq == m)))) else (none)))) else (none)) else (none)))) else ((shutterlaw14_awake.f k).bind fun bh => (some bh)))) else (none)) = some r := H
 have A3 := Z eU
 clear eU
 by_cases c4 : cu = true
 ·subst c4
  have H1 : ((shutterref10_Few.f k y z d m j A).bind fun bO => (if bO = true then ((edit_Type.f k y z d m j A a1).bind fun l => ((shutterref10_Right.f k l.1 l.2.1 l.2.2.1 l.2.2.2.1 l.2.2.2.2.1 l.2.2.2.2.2.1).bind fun a5 => (if a5 = true then (if (l.2.2.1.length : Int) = (d.length : Int) then (if l.2.2.2.2.2.2.1.isNone = true then ((shutterref11_Begin.f k y z d m j A m).bind fun T => (shutterlaw14_EditGuards.l0 k a1 T 0 y z d m j A l.1 l.2.1 l.2.2.1 l.2.2.2.1 l.2.2.2.2.1 l.2.2.2.2.2.1)) else ((shutterref10_Same.f k l.1 l.2.1 l.2.2.1 l.2.2.2.1 j l.2.2.2.2.2.1 y z d m j A).bind fun aD => (if aD = true then (if (l.2.2.2.2.1 == j) = true then (some true) else ((api_Where.f (some (l.2.2.2.2.2.2.1.getD ez)) l.2.2.2.2.2.2.2).bind fun aq => (some (aq == m)))) else (none)))) else (none)) else (none)))) else ((shutterlaw14_awake.f k).bind fun bh => (some bh)))) = some r := by rw [if_pos rfl] at H; exact H
  clear H
  have H := H1
  clear H1
  replace H := Option.bind_eq_some_iff.mp H
  obtain ⟨bO, eV, H⟩ := H
  replace H : (if bO = true then ((edit_Type.f k y z d m j A a1).bind fun l => ((shutterref10_Right.f k l.1 l.2.1 l.2.2.1 l.2.2.2.1 l.2.2.2.2.1 l.2.2.2.2.2.1).bind fun a5 => (if a5 = true then (if (l.2.2.1.length : Int) = (d.length : Int) then (if l.2.2.2.2.2.2.1.isNone = true then ((shutterref11_Begin.f k y z d m j A m).bind fun T => (shutterlaw14_EditGuards.l0 k a1 T 0 y z d m j A l.1 l.2.1 l.2.2.1 l.2.2.2.1 l.2.2.2.2.1 l.2.2.2.2.2.1)) else ((shutterref10_Same.f k l.1 l.2.1 l.2.2.1 l.2.2.2.1 j l.2.2.2.2.2.1 y z d m j A).bind fun aD => (if aD = true then (if (l.2.2.2.2.1 == j) = true then (some true) else ((api_Where.f (some (l.2.2.2.2.2.2.1.getD ez)) l.2.2.2.2.2.2.2).bind fun aq => (some (aq == m)))) else (none)))) else (none)) else (none)))) else ((shutterlaw14_awake.f k).bind fun bh => (some bh))) = some r := H
  have A5 := Z eV
  clear eV
  by_cases c6 : bO = true
  ·subst c6
   have H1 : ((edit_Type.f k y z d m j A a1).bind fun l => ((shutterref10_Right.f k l.1 l.2.1 l.2.2.1 l.2.2.2.1 l.2.2.2.2.1 l.2.2.2.2.2.1).bind fun a5 => (if a5 = true then (if (l.2.2.1.length : Int) = (d.length : Int) then (if l.2.2.2.2.2.2.1.isNone = true then ((shutterref11_Begin.f k y z d m j A m).bind fun T => (shutterlaw14_EditGuards.l0 k a1 T 0 y z d m j A l.1 l.2.1 l.2.2.1 l.2.2.2.1 l.2.2.2.2.1 l.2.2.2.2.2.1)) else ((shutterref10_Same.f k l.1 l.2.1 l.2.2.1 l.2.2.2.1 j l.2.2.2.2.2.1 y z d m j A).bind fun aD => (if aD = true then (if (l.2.2.2.2.1 == j) = true then (some true) else ((api_Where.f (some (l.2.2.2.2.2.2.1.getD ez)) l.2.2.2.2.2.2.2).bind fun aq => (some (aq == m)))) else (none)))) else (none)) else (none)))) = some r := by rw [if_pos rfl] at H; exact H
   clear H
   have H := H1
   clear H1
   replace H := Option.bind_eq_some_iff.mp H
   obtain ⟨⟨L, M, g, O, J, I, bX, aG⟩, eY, H⟩ := H
   replace H : ((shutterref10_Right.f k L M g O J I).bind fun a5 => (if a5 = true then (if (g.length : Int) = (d.length : Int) then (if bX.isNone = true then ((shutterref11_Begin.f k y z d m j A m).bind fun T => (shutterlaw14_EditGuards.l0 k a1 T 0 y z d m j A L M g O J I)) else ((shutterref10_Same.f k L M g O j I y z d m j A).bind fun aD => (if aD = true then (if (J == j) = true then (some true) else ((api_Where.f (some (bX.getD ez)) aG).bind fun aq => (some (aq == m)))) else (none)))) else (none)) else (none))) = some r := H
   have A7 := Z eY
   clear eY
   replace H := Option.bind_eq_some_iff.mp H
   obtain ⟨a5, e0, H⟩ := H
   replace H : (if a5 = true then (if (g.length : Int) = (d.length : Int) then (if bX.isNone = true then ((shutterref11_Begin.f k y z d m j A m).bind fun T => (shutterlaw14_EditGuards.l0 k a1 T 0 y z d m j A L M g O J I)) else ((shutterref10_Same.f k L M g O j I y z d m j A).bind fun aD => (if aD = true then (if (J == j) = true then (some true) else ((api_Where.f (some (bX.getD ez)) aG).bind fun aq => (some (aq == m)))) else (none)))) else (none)) else (none)) = some r := H
   have A8 := Z e0
   clear e0
   by_cases c9 : a5 = true
   ·subst c9
    have H1 : (if (g.length : Int) = (d.length : Int) then (if bX.isNone = true then ((shutterref11_Begin.f k y z d m j A m).bind fun T => (shutterlaw14_EditGuards.l0 k a1 T 0 y z d m j A L M g O J I)) else ((shutterref10_Same.f k L M g O j I y z d m j A).bind fun aD => (if aD = true then (if (J == j) = true then (some true) else ((api_Where.f (some (bX.getD ez)) aG).bind fun aq => (some (aq == m)))) else (none)))) else (none)) = some r := by rw [if_pos rfl] at H; exact H
    clear H
    have H := H1
    clear H1
    by_cases c10 : (g.length : Int) = (d.length : Int)
    ·rw [if_pos c10] at H
     have eI : ((g.length : Int) == (d.length : Int)) = true := beq_iff_eq.mpr c10
     have eJ : ((g.length : Int) != (d.length : Int)) = false := bne_eq_false_iff_eq.mpr c10
     have eK : (g.length == d.length) = true := by first | simpa using c10 | (simp at c10 ⊢; omega)
     clear c10
     rcases bX with _ | bG
     ·have H1 : ((shutterref11_Begin.f k y z d m j A m).bind fun T => (shutterlaw14_EditGuards.l0 k a1 T 0 y z d m j A L M g O J I)) = some r := by rw [if_pos (show (none : Option Er).isNone = true by rfl)] at H; exact H
      clear H
      have H := H1
      clear H1
      try simp only [errW_none, errW_some]
      replace H := Option.bind_eq_some_iff.mp H
      obtain ⟨T, es, H⟩ := H
      replace H : (shutterlaw14_EditGuards.l0 k a1 T 0 y z d m j A L M g O J I) = some r := H
      have lS := Z es
      clear es
      have H' := Z H
      clear H
      go_enter Tryd.func11, Tryd.ntmps11
      go_wp2_with (first | ((with_reducible refine gate_dst (N := 2) rfl ?_); (try (refine gate_guard (by rfl) ?_; dsimp only)); refine box_event ?hg (N := 2) ?hd (cs := #[.int .i64 y, .int .i64 z, .slice au d.length aa, .int .i64 m, .bool j, .bool A]) (t := 24) ?hr ?_; (case hd => rfl); (case hg => rfl); (case hr => first | (go_simp; done) | (go_simp; rfl)); intro x hg nb hbox hb; have o := Z (below_step bl_ hb); have q := Z (hbox); have B := Z ((le_new hg (below_size bl_) : w.heap.size ≤ x)); have D := Z ((le_new hg (below_size bl_) : w.heap.size ≤ x)); clear HB; have HB := o; have b := q; have bn := B; have cq := D; clear o q B D; clear hb hbox hg) | ((with_reducible refine gate_callee (f := 30) rfl ?_); refine goesL_ (some 11) rfl rfl Tryd.func30 (by kernel_rfl) rfl #[] rfl ag_ ?_; (with_reducible refine (shutterlaw14_awake.calls k  true _ ?sideG A3.out).mono ?_); (case sideG => exact laidG_below HG.out bl_ rfl); rintro e nc ⟨rfl, hb⟩; refine ⟨_, rfl, ?_⟩; have o := Z (kb b.out hb); have q := Z (below_step bl_ hb); clear b HB; have b := o; have HB := q; clear o q; (try clear hb); (try clear aL); (try clear hk); (try clear hi); obtain ⟨dg, dh, di, dj, dk, dl, dS, dT, dU, dV, dW, dX⟩ := cells6 b.out) | (go_at_call 18; (with_reducible refine (shutterref10_Few.calls k y z _ _ d m j A true _ ?side1 ?side2 A5.out).mono ?_); (case side1 => repeat (first | exact (Kd.C_below ap.out HB.out) | (with_reducible apply pC))); (case side2 => exact aH.out); rintro e nd ⟨rfl, hb⟩; have o := Z (kb b.out hb); have q := Z (below_step bl_ hb); clear b HB; have b := o; have HB := q; clear o q; (try clear hb); (try clear aL); (try clear hk); (try clear hi); obtain ⟨dm, dn, dp, dq, dr, dt, dY, dZ, d0, d1, d2, d3⟩ := cells6 b.out) | ((with_reducible refine gate_callee (f := 31) rfl ?_); refine goesL_ (some 22) rfl rfl Tryd.func31 (by kernel_rfl) rfl #[.agg #[.int .i64 y, .int .i64 z, .slice au d.length aa, .int .i64 m, .bool j, .bool A], .int .u8 a1] rfl ag_ ?_; (with_reducible refine (edit_Type.calls k y z (fun k_ => k_ < w.heap.size) _ _ d m j A a1 L M g O J I none aG _ ?side1 A7.out).mono ?_); (case side1 => exact Kd.V_mk aH.out (Kd.F_below (Kd.C_F k35_heap ap.out) bl_)); rintro e ne ⟨eA, bH, rfl, b3, b4, hb⟩; refine ⟨_, rfl, ?_⟩; have o := Z (Kd.V_lower (Kd.V_mono (ok' := fun k_ => k_ ≠ x) b3 (fun k_ hk_ => Or.elim hk_ (fun hs_ => fun e_ => Nat.not_le.2 hs_ (by rw [e_]; exact bn.out)) (fun hn_ => (fb b.out k_ hn_)))) (below_size bl_)); have q := Z (Kd.V_lower (Kd.V_mono (ok' := fun k_ => k_ ≠ x) b4 (fun k_ hk_ => Or.elim hk_ (fun hs_ => fun e_ => Nat.not_le.2 hs_ (by rw [e_]; exact bn.out)) (fun hn_ => (fb b.out k_ hn_)))) (below_size bl_)); have B := Z (kb b.out hb); have D := Z (below_step bl_ hb); clear b HB; have u := o; have E := q; have b := B; have HB := D; clear o q B D; (try clear hb); (try clear aL); (try clear hk); (try clear hi); (try clear b3); (try clear b4); (try simp only [errW_none, errW_some])) | ((with_reducible refine gate_dst (N := 5) rfl ?_); (try (refine gate_guard (by rfl) ?_; dsimp only)); refine box_event ?hg (N := 5) ?hd (cs := #[.int .i64 0, .int .i64 0, .slice none 0 0, .int .i64 0, .bool false, .bool false]) (t := 24) ?hr ?_; (case hd => rfl); (case hg => rfl); (case hr => first | (go_simp; done) | (go_simp; rfl)); intro s hg l3 hbox hb; have o := Z (ve u.out hg hb); have q := Z (ve E.out hg hb); have B := Z (kb b.out hb); have D := Z (below_step bl_ hb); have P := Z (hbox); have X := Z ((le_new hg (below_size bl_) : w.heap.size ≤ s)); have bk := Z ((le_new hg (below_size bl_) : w.heap.size ≤ s)); have bl := Z (nl b.out hg); have bm := Z (ng b.out hg); clear u E b HB; have u := o; have E := q; have b := B; have HB := D; have c := P; have cT := X; have cS := bk; have ab := bl; have ar := bm; clear o q B D P X bk bl bm; clear hb hbox hg; have ms := ar.out; have mD := ab.out; obtain ⟨du, dv, dw, dx, dy, dz, d4, d5, d6, d7, d8, d9⟩ := cells6 c.out; obtain ⟨bY, bc, fd⟩ := Kd.V_slice u.out; subst fd) | ((with_reducible refine gate_store (t := 24) (p := 5) rfl ?_); refine store_event (t := 24) (p := 5) (v := ?vo_w22) (w1 := ((((((l3.setCell ⟨s, 0, none⟩ (.int .i64 L)).setCell ⟨s, 1, none⟩ (.int .i64 M)).setCell ⟨s, 2, none⟩ (.slice bY g.length bc)).setCell ⟨s, 3, none⟩ (.int .i64 O)).setCell ⟨s, 4, none⟩ (.bool J)).setCell ⟨s, 5, none⟩ (.bool I))) ?hg ?ho ?hn ?hr ?_; (case ho => rfl); (case hg => rfl); (case hn => rfl); (case hr => first | (go_simp; done) | (go_simp; rfl)); intro cB hw; have o : Aside0 (Kd.V k35 35 cB w.heap.size (fun k_ => k_ ≠ x ∧ k_ ≠ s) (.slice bY g.length bc) g) := ⟨(by rw [hw]; exact (by (with_reducible repeat apply pV); exact V_off u.out (fun k_ hk => hk.2) off2_ (fun _ hk => ⟨hk.1, hk.2⟩)))⟩; have q : Aside0 (Kd.V k164 164 cB w.heap.size (fun k_ => k_ ≠ x ∧ k_ ≠ s) bH aG) := ⟨(by rw [hw]; exact (by (with_reducible repeat apply pV); exact V_off E.out (fun k_ hk => hk.2) off2_ (fun _ hk => ⟨hk.1, hk.2⟩)))⟩; have B : Aside0 (cB.heap[x]? = some (.cells #[.int .i64 y, .int .i64 z, .slice au d.length aa, .int .i64 m, .bool j, .bool A] 24 (0, 0))) := ⟨(by rw [hw]; exact (by (with_reducible repeat apply pK); exact blk_off b.out ab.out off2_))⟩; have D : Aside0 (cB.heap[s]? = some (.cells #[.int .i64 L, .int .i64 M, .slice bY g.length bc, .int .i64 O, .bool J, .bool I] 24 (0, 0))) := ⟨by rw [hw]; exact (put6 c.out)⟩; have P : Aside0 (Below w.heap.size w cB) := ⟨by rw [hw]; exact bl_⟩; clear hw u E b c HB; have u := o; have E := q; have b := B; have c := D; have HB := P; clear o q B D P; obtain ⟨dA, dB, dC, dD, dE, dF, ea, eb, ec, ed, ee, ef⟩ := cells6 c.out) | ((with_reducible refine gate_callee (f := 20) rfl ?_); refine goesL_ (some 26) rfl rfl Tryd.func20 (by kernel_rfl) rfl #[.agg #[.int .i64 L, .int .i64 M, .slice bY g.length bc, .int .i64 O, .bool J, .bool I]] rfl ag_ ?_; (with_reducible refine (shutterref10_Right.calls k L M _ _ g O J I true _ ?side1 ?side2 A8.out).mono ?_); (case side1 => repeat (first | exact (Kd.V_reads' u.out).2.2 | (with_reducible apply pC))); (case side2 => exact (Kd.V_reads' u.out).2.1); rintro e nf ⟨rfl, hb⟩; refine ⟨_, rfl, ?_⟩; have o := Z (vb u.out hb); have q := Z (vb E.out hb); have B := Z (kb b.out hb); have D := Z (kb c.out hb); have P := Z (below_step bl_ hb); clear u E b c HB; have u := o; have E := q; have b := B; have c := D; have HB := P; clear o q B D P; (try clear hb); (try clear aL); (try clear hk); (try clear hi); obtain ⟨dG, dH, dI, dJ, dK, dL, eg, eh, ei, ej, ek, el⟩ := cells6 c.out; obtain ⟨dM, dN, dO, dP, dQ, dR, em, en, eo, ep, eq, er⟩ := cells6 b.out) | ((with_reducible refine gate_callee (f := 21) rfl ?_); refine goesL_ (some 63) rfl rfl Tryd.func21 (by kernel_rfl) rfl #[.agg #[.int .i64 y, .int .i64 z, .slice au d.length aa, .int .i64 m, .bool j, .bool A], .int .i64 m] rfl ag_ ?_; (with_reducible refine (shutterref11_Begin.calls k y z _ _ d m j A m T _ ?side1 ?side2 lS.out).mono ?_); (case side1 => repeat (first | exact (Kd.C_below ap.out HB.out) | (with_reducible apply pC))); (case side2 => exact aH.out); rintro e nh ⟨rfl, hb⟩; refine ⟨_, rfl, ?_⟩; have o := Z (vb u.out hb); have q := Z (vb E.out hb); have B := Z (kb b.out hb); have D := Z (kb c.out hb); have P := Z (below_step bl_ hb); clear u E b c HB; have u := o; have E := q; have b := B; have c := D; have HB := P; clear o q B D P; (try clear hb); (try clear aL); (try clear hk); (try clear hi)))
      go_loopg [9] k (fun kq v9 w' => ∃ (a : Int), v9 = .int .i64 a ∧ Aside0 (shutterlaw14_EditGuards.l0 kq a1 T a y z d m j A L M g O J I = some r) ∧ Aside0 (kq ≤ k) ∧ Aside0 (Kd.V k35 35 w' w.heap.size (fun k_ => k_ ≠ x ∧ k_ ≠ s) (.slice bY g.length bc) g) ∧ Aside0 (w'.heap[x]? = some (.cells #[.int .i64 y, .int .i64 z, (.slice au d.length aa), .int .i64 m, .bool j, .bool A] 24 (0, 0))) ∧ Aside0 (w'.heap[s]? = some (.cells #[.int .i64 L, .int .i64 M, (.slice bY g.length bc), .int .i64 O, .bool J, .bool I] 24 (0, 0))) ∧ Aside0 (Below w.heap.size w w'))
      case atStart => exact ⟨(0), (by first | rfl | (simp; done) | (simp [*]; done)), H', ⟨Nat.le_refl _⟩, ⟨by (with_reducible repeat apply pV); exact u.out⟩, ⟨by (with_reducible repeat apply pK); exact b.out⟩, ⟨by (with_reducible repeat apply pK); exact c.out⟩, ⟨bl_⟩⟩
      case round =>
       clear H'
       try clear c1
       try clear c2
       try clear p2
       try clear c3
       try clear c4
       try clear c6
       try clear q6
       try clear c9
       try clear c10
       try clear eI
       try clear eJ
       try clear eK
       try clear m7
       try clear m8
       try clear m9
       try clear na
       try clear dg
       try clear dh
       try clear di
       try clear dj
       try clear dk
       try clear dl
       try clear dm
       try clear dn
       try clear dp
       try clear dq
       try clear dr
       try clear dt
       try clear du
       try clear dv
       try clear dw
       try clear dx
       try clear dy
       try clear dz
       try clear dA
       try clear dB
       try clear dC
       try clear dD
       try clear dE
       try clear dF
       try clear dG
       try clear dH
       try clear dI
       try clear dJ
       try clear dK
       try clear dL
       try clear dM
       try clear dN
       try clear dO
       try clear dP
       try clear dQ
       try clear dR
       try clear dS
       try clear dT
       try clear dU
       try clear dV
       try clear dW
       try clear dX
       try clear dY
       try clear dZ
       try clear d0
       try clear d1
       try clear d2
       try clear d3
       try clear d4
       try clear d5
       try clear d6
       try clear d7
       try clear d8
       try clear d9
       try clear ea
       try clear eb
       try clear ec
       try clear ed
       try clear ee
       try clear ef
       try clear eg
       try clear eh
       try clear ei
       try clear ej
       try clear ek
       try clear el
       try clear em
       try clear en
       try clear eo
       try clear ep
       try clear eq
       try clear er
       try clear bG
       obtain ⟨a, rfl, HA, b2, HO_643002, b, c, HB⟩ := hrel
       cases gk with
       | zero => exact absurd HA.out (by simp [shutterlaw14_EditGuards.l0])
       | succ k1 =>
        have H := HA.out
        clear HA
        simp only [shutterlaw14_EditGuards.l0] at H
        by_cases cb : a < (d.length : Int)
        ·rw [if_pos cb] at H
         have eL : decide (a < (d.length : Int)) = true := decide_eq_true cb
         clear cb
         by_cases b6 : a = T
         ·rw [if_pos b6] at H
          have eM : (a == T) = true := beq_iff_eq.mpr b6
          have eN : (a != T) = false := bne_eq_false_iff_eq.mpr b6
          clear b6
          by_cases cU : 0 ≤ a
          ·rw [if_pos cU] at H
           have mb : decide (0 ≤ a) = true := decide_eq_true cU
           clear cU
           by_cases cV : a < (g.length : Int)
           ·rw [if_pos cV] at H
            have mc : decide (a < (g.length : Int)) = true := decide_eq_true cV
            clear cV
            obtain ⟨cD, cr⟩ : ∃ b_ : Bool, b_ = ((rd_T35 g a).f0) := ⟨_, rfl⟩
            replace H : (if (cD = true) then (if ((rd_T35 g a).f1.f3 = true) then (if (!((cD) == ((rd_T35 d a).f0)) || ((!(((rd_T35 g a).f1.f0) == ((rd_T35 d a).f1.f0)) || (!(((rd_T35 g a).f1.f1) == ((rd_T35 d a).f1.f1)) || (!(((rd_T35 g a).f1.f2) == ((rd_T35 d a).f1.f2))))) || (!(((rd_T35 g a).f2) == ((rd_T35 d a).f2))))) = true then (none) else (shutterlaw14_EditGuards.l0 k1 a1 T (wrap64 (a + 1)) y z d m j A L M g O J I)) else (none)) else (none)) = some r := by rw [← cr] at H; exact H
            have U := Z cr
            clear cr
            by_cases cW : (cD = true)
            ·subst cW
             have H1 : (if ((rd_T35 g a).f1.f3 = true) then (if (!((true) == ((rd_T35 d a).f0)) || ((!(((rd_T35 g a).f1.f0) == ((rd_T35 d a).f1.f0)) || (!(((rd_T35 g a).f1.f1) == ((rd_T35 d a).f1.f1)) || (!(((rd_T35 g a).f1.f2) == ((rd_T35 d a).f1.f2))))) || (!(((rd_T35 g a).f2) == ((rd_T35 d a).f2))))) = true then (none) else (shutterlaw14_EditGuards.l0 k1 a1 T (wrap64 (a + 1)) y z d m j A L M g O J I)) else (none)) = some r := by rw [if_pos rfl] at H; exact H
             clear H
             have H := H1
             clear H1
             obtain ⟨ey, ct⟩ : ∃ b_ : Bool, b_ = ((rd_T35 g a).f1.f3) := ⟨_, rfl⟩
             replace H : (if (ey = true) then (if (!((true) == ((rd_T35 d a).f0)) || ((!(((rd_T35 g a).f1.f0) == ((rd_T35 d a).f1.f0)) || (!(((rd_T35 g a).f1.f1) == ((rd_T35 d a).f1.f1)) || (!(((rd_T35 g a).f1.f2) == ((rd_T35 d a).f1.f2))))) || (!(((rd_T35 g a).f2) == ((rd_T35 d a).f2))))) = true then (none) else (shutterlaw14_EditGuards.l0 k1 a1 T (wrap64 (a + 1)) y z d m j A L M g O J I)) else (none)) = some r := by rw [← ct] at H; exact H
             have W := Z ct
             clear ct
             by_cases cX : (ey = true)
             ·subst cX
              have H1 : (if (!((true) == ((rd_T35 d a).f0)) || ((!(((rd_T35 g a).f1.f0) == ((rd_T35 d a).f1.f0)) || (!(((rd_T35 g a).f1.f1) == ((rd_T35 d a).f1.f1)) || (!(((rd_T35 g a).f1.f2) == ((rd_T35 d a).f1.f2))))) || (!(((rd_T35 g a).f2) == ((rd_T35 d a).f2))))) = true then (none) else (shutterlaw14_EditGuards.l0 k1 a1 T (wrap64 (a + 1)) y z d m j A L M g O J I)) = some r := by rw [if_pos rfl] at H; exact H
              clear H
              have H := H1
              clear H1
              by_cases cY : (!((true) == ((rd_T35 d a).f0)) || ((!(((rd_T35 g a).f1.f0) == ((rd_T35 d a).f1.f0)) || (!(((rd_T35 g a).f1.f1) == ((rd_T35 d a).f1.f1)) || (!(((rd_T35 g a).f1.f2) == ((rd_T35 d a).f1.f2))))) || (!(((rd_T35 g a).f2) == ((rd_T35 d a).f2))))) = true
              ·rw [if_pos cY] at H
               exact absurd H (by simp)
              ·rw [if_neg cY] at H
               have eO : (!((true) == ((rd_T35 d a).f0)) || ((!(((rd_T35 g a).f1.f0) == ((rd_T35 d a).f1.f0)) || (!(((rd_T35 g a).f1.f1) == ((rd_T35 d a).f1.f1)) || (!(((rd_T35 g a).f1.f2) == ((rd_T35 d a).f1.f2))))) || (!(((rd_T35 g a).f2) == ((rd_T35 d a).f2))))) = false := by simpa using cY
               clear cY
               have H' := Z H
               clear H
               have mt := ab.out
               have mE := ar.out
               obtain ⟨hZ, h0, h1, h2, h3, h4, jQ, jR, jS, jT, jU, jV⟩ := cells6 b.out
               obtain ⟨h5, h6, h7, h8, h9, ia, jW, jX, jY, jZ, j0, j1⟩ := cells6 c.out
               have cF : 0 ≤ (a : Int) := od_
               have cL : a < (g.length : Int) := od_
               obtain ⟨bQ, e7, ce, cf, cg, lM, ch, lN⟩ := at_T35 (Kd.V_reads' HO_643002.out).2.2 a cF cL
               (try rw [← U.out] at ce)
               (try rw [← W.out] at ce)
               (try rw [← U.out] at cf)
               (try rw [← W.out] at cf)
               (try rw [← U.out] at cg)
               (try rw [← W.out] at cg)
               (try rw [← U.out] at ch)
               (try rw [← W.out] at ch)
               cases e7
               replace cF := eq_true cF
               replace cL := eq_true cL
               have cG : 0 ≤ (a : Int) := od_
               have cM : a < (g.length : Int) := od_
               obtain ⟨eF, e8, ci, cj, ck, lO, cl, lP⟩ := at_T35 (Kd.V_reads' HO_643002.out).2.2 a cG cM
               (try rw [← U.out] at ci)
               (try rw [← W.out] at ci)
               (try rw [← U.out] at cj)
               (try rw [← W.out] at cj)
               (try rw [← U.out] at ck)
               (try rw [← W.out] at ck)
               (try rw [← U.out] at cl)
               (try rw [← W.out] at cl)
               obtain rfl : bQ = eF := (by injection e8)
               replace cG := eq_true cG
               replace cM := eq_true cM
               have cH : 0 ≤ (a : Int) := od_
               have cN : a < (g.length : Int) := od_
               obtain ⟨eG, e9, cm, cn, co, lQ, cp, lR⟩ := at_T35 (Kd.V_reads' HO_643002.out).2.2 a cH cN
               (try rw [← U.out] at cm)
               (try rw [← W.out] at cm)
               (try rw [← U.out] at cn)
               (try rw [← W.out] at cn)
               (try rw [← U.out] at co)
               (try rw [← W.out] at co)
               (try rw [← U.out] at cp)
               (try rw [← W.out] at cp)
               obtain rfl : bQ = eG := (by injection e9)
               replace cH := eq_true cH
               replace cN := eq_true cN
               try go_wp2_with (first | ((with_reducible refine gate_dst (N := 10) rfl ?_); (try (refine gate_guard (by rfl) ?_; dsimp only)); refine box_event ?hg (N := 10) ?hd (cs := #[.bool false, .bool false, .bool false, .int .i64 0, .bool false, .int .u8 0]) (t := 35) ?hr ?_; (case hd => rfl); (case hg => rfl); (case hr => first | (go_simp; done) | (go_simp; rfl)); intro Y hg l4 hbox hb; have o := Z (ve HO_643002.out hg hb); have q := Z (kb b.out hb); have B := Z (kb c.out hb); have D := Z (below_step bl_ hb); have P := Z (hbox); have X := Z ((le_new hg (below_size bl_) : w.heap.size ≤ Y)); have bk := Z ((le_new hg (below_size bl_) : w.heap.size ≤ Y)); have bl := Z (nl b.out hg); have bm := Z (ng b.out hg); have b5 := Z (nl c.out hg); have bN := Z (ng c.out hg); clear HO_643002 b c HB; have HO_643002 := o; have b := q; have c := B; have HB := D; have ao := P; have l9 := X; have l8 := bk; have bI := bl; have cw := bm; have bJ := b5; have cx := bN; clear o q B D P X bk bl bm b5 bN; clear hb hbox hg; have mu := cw.out; have mF := bI.out; have mv := cx.out; have mG := bJ.out; obtain ⟨ib, ic, id, ie, ig, ih, j2, j3, j4, j5, j6, j7⟩ := cells6 ao.out) | ((with_reducible refine gate_store (t := 35) (p := 10) rfl ?_); refine store_event (t := 35) (p := 10) (v := ?vo_w44) (w1 := ((((((l4.setCell ⟨Y, 0, none⟩ (.bool true)).setCell ⟨Y, 1, none⟩ (.bool ((rd_T35 g a).f1.f0))).setCell ⟨Y, 2, none⟩ (.bool ((rd_T35 g a).f1.f1))).setCell ⟨Y, 3, none⟩ (.int .i64 ((rd_T35 g a).f1.f2))).setCell ⟨Y, 4, none⟩ (.bool true)).setCell ⟨Y, 5, none⟩ (.int .u8 ((rd_T35 g a).f2)))) ?hg ?ho ?hn ?hr ?_; (case ho => rfl); (case hg => rfl); (case hn => rfl); (case hr => first | (go_simp; done) | (go_simp; rfl)); intro bP hw; have o : Aside0 (Kd.V k35 35 bP w.heap.size (fun k_ => k_ ≠ x ∧ k_ ≠ s ∧ k_ ≠ Y) (.slice (some bQ) g.length bc) g) := ⟨(by rw [hw]; exact (by (with_reducible repeat apply pV); exact V_off HO_643002.out (fun k_ hk => hk.2) off2_ (fun _ hk => ⟨hk.1.1, ⟨hk.1.2, hk.2⟩⟩)))⟩; have q : Aside0 (bP.heap[x]? = some (.cells #[.int .i64 y, .int .i64 z, .slice au d.length aa, .int .i64 m, .bool j, .bool A] 24 (0, 0))) := ⟨(by rw [hw]; exact (by (with_reducible repeat apply pK); exact blk_off b.out bI.out off2_))⟩; have B : Aside0 (bP.heap[s]? = some (.cells #[.int .i64 L, .int .i64 M, .slice (some bQ) g.length bc, .int .i64 O, .bool J, .bool I] 24 (0, 0))) := ⟨(by rw [hw]; exact (by (with_reducible repeat apply pK); exact blk_off c.out bJ.out off2_))⟩; have D : Aside0 (bP.heap[Y]? = some (.cells #[.bool true, .bool ((rd_T35 g a).f1.f0), .bool ((rd_T35 g a).f1.f1), .int .i64 ((rd_T35 g a).f1.f2), .bool true, .int .u8 ((rd_T35 g a).f2)] 35 (0, 0))) := ⟨(by rw [hw]; exact (by first | exact put6 ao.out | (simp only [← U.out, ← W.out]; exact put6 ao.out)))⟩; have P : Aside0 (Below w.heap.size w bP) := ⟨by rw [hw]; exact bl_⟩; clear hw HO_643002 b c ao HB; have HO_643002 := o; have b := q; have c := B; have ao := D; have HB := P; clear o q B D P; obtain ⟨ii, ij, ik, il, im, io, j8, j9, ka, kc, kd, ke⟩ := cells6 b.out; have cI : 0 ≤ (a : Int) := od_; have cO : a < (d.length : Int) := od_; obtain ⟨aI, fa, bs, bt, bu, bZ, bw, b0⟩ := at_T35 ap.out a cI cO; (try rw [← U.out] at bs); (try rw [← W.out] at bs); (try rw [← U.out] at bt); (try rw [← W.out] at bt); (try rw [← U.out] at bu); (try rw [← W.out] at bu); (try rw [← U.out] at bw); (try rw [← W.out] at bw); cases fa; replace bs := (HB.out.cell (bk_ w _ bs)).trans bs; replace bt := (HB.out.cell (bk_ w _ bt)).trans bt; replace bu := (HB.out.cell (bk_ w _ bu)).trans bu; replace bZ := (HB.out.cell (bk_ w _ bZ)).trans bZ; replace bw := (HB.out.cell (bk_ w _ bw)).trans bw; replace b0 := (HB.out.cell (bk_ w _ b0)).trans b0; replace cI := eq_true cI; replace cO := eq_true cO; obtain ⟨ip, iq, ir, it, iu, iv, kf, kg, kh, ki, kj, kk⟩ := cells6 ao.out))
               have o : Aside0 (Kd.V k35 35 (bP.setCell ⟨Y, 4, none⟩ (.bool ((rd_T35 d a).f1.f3))) w.heap.size (fun k_ => k_ ≠ x ∧ k_ ≠ s ∧ k_ ≠ Y) (.slice (some bQ) g.length bc) g) := ⟨by (with_reducible repeat apply pV); exact Kd.V_mono (Kd.V_far (p := ⟨Y, 4, none⟩) (Kd.V_mono HO_643002.out (fun k_ hk => (⟨hk, hk.2.2⟩ : _ ∧ k_ ≠ Y))) (fun _ hk => hk.2) (.bool ((rd_T35 d a).f1.f3))) (fun _ hk => ⟨hk.1.1, ⟨hk.1.2.1, hk.1.2.2⟩⟩)⟩
               have q : Aside0 ((bP.setCell ⟨Y, 4, none⟩ (.bool ((rd_T35 d a).f1.f3))).heap[x]? = some (.cells #[.int .i64 y, .int .i64 z, .slice (some aI) d.length aa, .int .i64 m, .bool j, .bool A] 24 (0, 0))) := ⟨by (with_reducible repeat apply pK); exact blk_off b.out bI.out off2_⟩
               have B : Aside0 ((bP.setCell ⟨Y, 4, none⟩ (.bool ((rd_T35 d a).f1.f3))).heap[s]? = some (.cells #[.int .i64 L, .int .i64 M, .slice (some bQ) g.length bc, .int .i64 O, .bool J, .bool I] 24 (0, 0))) := ⟨by (with_reducible repeat apply pK); exact blk_off c.out bJ.out off2_⟩
               have D : Aside0 ((bP.setCell ⟨Y, 4, none⟩ (.bool ((rd_T35 d a).f1.f3))).heap[Y]? = some (.cells #[.bool true, .bool ((rd_T35 g a).f1.f0), .bool ((rd_T35 g a).f1.f1), .int .i64 ((rd_T35 g a).f1.f2), .bool ((rd_T35 d a).f1.f3), .int .u8 ((rd_T35 g a).f2)] 35 (0, 0))) := ⟨by (with_reducible repeat apply pK); refine blk_put (cs := #[.bool true, .bool ((rd_T35 g a).f1.f0), .bool ((rd_T35 g a).f1.f1), .int .i64 ((rd_T35 g a).f1.f2), .bool true, .int .u8 ((rd_T35 g a).f2)]) ?_ 4 _ (by first | rfl | (simp only [← U.out, ← W.out]; rfl) | (simp [← U.out, ← W.out]; done)); (with_reducible repeat apply pK); exact ao.out⟩
               have P : Aside0 (Below w.heap.size w (bP.setCell ⟨Y, 4, none⟩ (.bool ((rd_T35 d a).f1.f3)))) := ⟨bl_⟩
               (try clear HO_643002)
               (try clear b)
               (try clear c)
               (try clear ao)
               (try clear HB)
               generalize (bP.setCell ⟨Y, 4, none⟩ (.bool ((rd_T35 d a).f1.f3))) = l5 at o q B D P ⊢
               have HO_643002 := o
               have b := q
               have c := B
               have ao := D
               have HB := P
               clear o q B D P
               have o := Z (Kd.V_drew HO_643002.out)
               have q := Z (blk_drew b.out)
               have B := Z (blk_drew c.out)
               have D := Z (blk_drew ao.out)
               have P := Z (below_drew1 HB.out)
               clear HO_643002
               clear b
               clear c
               clear ao
               clear HB
               have HO_643002 := o
               have b := q
               have c := B
               have ao := D
               have HB := P
               clear o q B D P
               have cJ : 0 ≤ (a : Int) := od_
               have cP : a < (d.length : Int) := od_
               obtain ⟨eH, fc, bd, be, bf, bx, bg, bz⟩ := at_T35 ap.out a cJ cP
               have bW := bz
               (try rw [← U.out] at bW)
               (try rw [← W.out] at bW)
               have bV := bg
               (try rw [← U.out] at bV)
               (try rw [← W.out] at bV)
               have bU := bx
               (try rw [← U.out] at bU)
               (try rw [← W.out] at bU)
               have bT := bf
               (try rw [← U.out] at bT)
               (try rw [← W.out] at bT)
               have bS := be
               (try rw [← U.out] at bS)
               (try rw [← W.out] at bS)
               have bR := bd
               (try rw [← U.out] at bR)
               (try rw [← W.out] at bR)
               (try rw [← U.out] at bd)
               (try rw [← W.out] at bd)
               (try rw [← U.out] at be)
               (try rw [← W.out] at be)
               (try rw [← U.out] at bf)
               (try rw [← W.out] at bf)
               (try rw [← U.out] at bg)
               (try rw [← W.out] at bg)
               obtain rfl : aI = eH := (by injection fc)
               replace bd := (HB.out.cell (bk_ w _ bd)).trans bd
               replace be := (HB.out.cell (bk_ w _ be)).trans be
               replace bf := (HB.out.cell (bk_ w _ bf)).trans bf
               replace bx := (HB.out.cell (bk_ w _ bx)).trans bx
               replace bg := (HB.out.cell (bk_ w _ bg)).trans bg
               replace bz := (HB.out.cell (bk_ w _ bz)).trans bz
               replace cJ := eq_true cJ
               replace cP := eq_true cP
               refine start_ (n := 7) (S := fun w' => w'.cell? ⟨Y, 0, none⟩ = some (.bool true) ∧ w'.cell? ⟨Y, 1, none⟩ = some (.bool ((rd_T35 g a).f1.f0)) ∧ w'.cell? ⟨Y, 2, none⟩ = some (.bool ((rd_T35 g a).f1.f1)) ∧ w'.cell? ⟨Y, 3, none⟩ = some (.int .i64 ((rd_T35 g a).f1.f2)) ∧ w'.cell? ⟨Y, 4, none⟩ = some (.bool ((rd_T35 d a).f1.f3)) ∧ w'.cell? ⟨Y, 5, none⟩ = some (.int .u8 ((rd_T35 g a).f2)) ∧ w'.cell? ⟨x, 0, none⟩ = some (.int .i64 y) ∧ w'.cell? ⟨x, 1, none⟩ = some (.int .i64 z) ∧ w'.cell? ⟨x, 2, none⟩ = some (.slice (some aI) d.length aa) ∧ w'.cell? ⟨x, 3, none⟩ = some (.int .i64 m) ∧ w'.cell? ⟨x, 4, none⟩ = some (.bool j) ∧ w'.cell? ⟨x, 5, none⟩ = some (.bool A) ∧ w'.cell? (aI.add ((a).toNat * 6)) = some (.bool ((rd_T35 d a).f0)) ∧ w'.cell? ⟨(aI.add ((a).toNat * 6)).block, (aI.add ((a).toNat * 6)).off + 1, none⟩ = some (.bool ((rd_T35 d a).f1.f0)) ∧ w'.cell? ⟨(aI.add ((a).toNat * 6)).block, (aI.add ((a).toNat * 6)).off + 2, none⟩ = some (.bool ((rd_T35 d a).f1.f1)) ∧ w'.cell? ⟨(aI.add ((a).toNat * 6)).block, (aI.add ((a).toNat * 6)).off + 3, none⟩ = some (.int .i64 ((rd_T35 d a).f1.f2)) ∧ w'.cell? ⟨(aI.add ((a).toNat * 6)).block, (aI.add ((a).toNat * 6)).off + 4, none⟩ = some (.bool ((rd_T35 d a).f1.f3)) ∧ w'.cell? ⟨(aI.add ((a).toNat * 6)).block, (aI.add ((a).toNat * 6)).off + 5, none⟩ = some (.int .u8 ((rd_T35 d a).f2))) (ds := []) (bv 7 0) (by kernel_rfl) rfl rfl ⟨(blk_cell ao.out 0).trans rfl, (blk_cell ao.out 1).trans rfl, (blk_cell ao.out 2).trans rfl, (blk_cell ao.out 3).trans rfl, (blk_cell ao.out 4).trans rfl, (blk_cell ao.out 5).trans rfl, (blk_cell b.out 0).trans rfl, (blk_cell b.out 1).trans rfl, (blk_cell b.out 2).trans rfl, (blk_cell b.out 3).trans rfl, (blk_cell b.out 4).trans rfl, (blk_cell b.out 5).trans rfl, ((HB.out.cell (bk_ w _ bR)).trans bR), ((HB.out.cell (bk_ w _ bS)).trans bS), ((HB.out.cell (bk_ w _ bT)).trans bT), ((HB.out.cell (bk_ w _ bU)).trans bU), ((HB.out.cell (bk_ w _ bV)).trans bV), ((HB.out.cell (bk_ w _ bW)).trans bW)⟩ (fun hHeld => ?_)
               generalize l5.drew = ni at HO_643002 b c ao HB bd be bf bx bg bz hHeld ⊢
               refine pure_ (i := 1) (N := some 106) (v := ?_) (a' := ?_) (bv 7 2) rfl rfl (by kernel_rfl) (fun _ _ _ h => h) (Or.inl ⟨by rfl, ?_⟩) ?_ ?_
               rotate_left
               ·intro w'
                go_simp
                with_reducible rfl
               rotate_left
               ·simp only [Act.put, sA, sB, sC, i64_w, i32_w]
                rfl
               refine pure_ (i := 3) (N := some 108) (v := ?_) (a' := ?_) (bv 7 10) rfl rfl (by kernel_rfl) (fun _ _ _ h => h) (Or.inl ⟨by rfl, ?_⟩) ?_ ?_
               rotate_left
               ·intro w'
                go_simp
                with_reducible rfl
               rotate_left
               ·simp only [Act.put, sA, sB, sC, i64_w, i32_w]
                rfl
               refine take_ (i := 0) (N := some 105) (v := ?_) (a' := ?_) (bv 7 11) rfl rfl (by kernel_rfl) (fun _ _ _ h => h) (Or.inl ⟨by rfl, ?_⟩) hHeld ?_ ?_
               rotate_left
               ·rintro w' ⟨s0, s1, s2, s3, s4, s5, s6, s7, s8, s9, av, aw, ax, ay, az, aA, aB, aC⟩
                go_simp
                with_reducible rfl
               rotate_left
               ·simp only [Act.put, sA, sB, sC, i64_w, i32_w]
                rfl
               refine take_ (i := 2) (N := some 107) (v := ?_) (a' := ?_) (bv 7 15) rfl rfl (by kernel_rfl) (fun _ _ _ h => h) (Or.inl ⟨by rfl, ?_⟩) hHeld ?_ ?_
               rotate_left
               ·rintro w' ⟨s0, s1, s2, s3, s4, s5, s6, s7, s8, s9, av, aw, ax, ay, az, aA, aB, aC⟩
                go_simp
                with_reducible rfl
               rotate_left
               ·simp only [Act.put, sA, sB, sC, i64_w, i32_w]
                rfl
               refine pure_ (i := 4) (N := some 109) (v := ?_) (a' := ?_) (bv 7 31) rfl rfl (by kernel_rfl) (fun _ _ _ h => h) (Or.inl ⟨by rfl, ?_⟩) ?_ ?_
               rotate_left
               ·intro w'
                go_simp
                with_reducible rfl
               rotate_left
               ·simp only [Act.put, sA, sB, sC, i64_w, i32_w]
                rfl
               refine take_ (i := 5) (N := some 110) (v := ?_) (a' := ?_) (bv 7 63) rfl rfl (by kernel_rfl) (fun _ _ _ h => h) (Or.inl ⟨by rfl, ?_⟩) hHeld ?_ ?_
               rotate_left
               ·rintro w' ⟨s0, s1, s2, s3, s4, s5, s6, s7, s8, s9, av, aw, ax, ay, az, aA, aB, aC⟩
                go_simp
                with_reducible rfl
               rotate_left
               ·simp only [Act.put, sA, sB, sC, i64_w, i32_w]
                rfl
               refine pure_ (i := 6) (N := some 111) (v := ?_) (a' := ?_) (bv 7 127) rfl rfl (by kernel_rfl) (fun _ _ _ h => h) (Or.inl ⟨by rfl, ?_⟩) ?_ ?_
               rotate_left
               ·intro w'
                go_simp
                with_reducible rfl
               rotate_left
               ·simp only [Act.put, sA, sB, sC, i64_w, i32_w]
                rfl
               refine done_ (by kernel_rfl) ?_
               try go_wp2
               any_goals (first | (exfalso; rename_i hq_; exact Bool.noConfusion ((show (!((true) == ((rd_T35 d a).f0)) || ((!(((rd_T35 g a).f1.f0) == ((rd_T35 d a).f1.f0)) || (!(((rd_T35 g a).f1.f1) == ((rd_T35 d a).f1.f1)) || (!(((rd_T35 g a).f1.f2) == ((rd_T35 d a).f1.f2))))) || (!(((rd_T35 g a).f2) == ((rd_T35 d a).f2))))) = true by simpa using hq_).symm.trans eO)) | skip)
               go_roundg k1
               case measure => have := b2.out; omega
               case rel => exact ⟨(wrap64 (a + 1)), (by first | rfl | (simp; done) | (simp [*]; done)), H', ⟨by have := b2.out; omega⟩, ⟨by (with_reducible repeat apply pV); exact Kd.V_mono HO_643002.out (fun _ hk => ⟨hk.1, hk.2.1⟩)⟩, ⟨by (with_reducible repeat apply pK); exact b.out⟩, ⟨by (with_reducible repeat apply pK); exact c.out⟩, ⟨bl_⟩⟩
             ·replace cX := Bool.eq_false_iff.mpr cX
              subst cX
              have H1 : (none) = some r := by rw [if_neg (show ¬ (false = true) by decide)] at H; exact H
              clear H
              have H := H1
              clear H1
              exact absurd H (by simp)
            ·replace cW := Bool.eq_false_iff.mpr cW
             subst cW
             have H1 : (none) = some r := by rw [if_neg (show ¬ (false = true) by decide)] at H; exact H
             clear H
             have H := H1
             clear H1
             exact absurd H (by simp)
           ·rw [if_neg cV] at H
            exact absurd H (by simp)
          ·rw [if_neg cU] at H
           exact absurd H (by simp)
         ·rw [if_neg b6] at H
          have eM : (a == T) = false := beq_eq_false_iff_ne.mpr b6
          have eN : (a != T) = true := bne_iff_ne.mpr b6
          by_cases cZ : 0 ≤ a
          ·rw [if_pos cZ] at H
           have md : decide (0 ≤ a) = true := decide_eq_true cZ
           clear cZ
           by_cases c0 : a < (g.length : Int)
           ·rw [if_pos c0] at H
            have me : decide (a < (g.length : Int)) = true := decide_eq_true c0
            clear c0
            by_cases cc : (!(((rd_T35 g a).f0) == ((rd_T35 d a).f0)) || ((!(((rd_T35 g a).f1.f0) == ((rd_T35 d a).f1.f0)) || (!(((rd_T35 g a).f1.f1) == ((rd_T35 d a).f1.f1)) || (!(((rd_T35 g a).f1.f2) == ((rd_T35 d a).f1.f2)) || (!(((rd_T35 g a).f1.f3) == ((rd_T35 d a).f1.f3)))))) || (!(((rd_T35 g a).f2) == ((rd_T35 d a).f2))))) = true
            ·rw [if_pos cc] at H
             have c5 : (!(((rd_T35 g a).f0) == ((rd_T35 d a).f0)) || ((!(((rd_T35 g a).f1.f0) == ((rd_T35 d a).f1.f0)) || (!(((rd_T35 g a).f1.f1) == ((rd_T35 d a).f1.f1)) || (!(((rd_T35 g a).f1.f2) == ((rd_T35 d a).f1.f2)) || (!(((rd_T35 g a).f1.f3) == ((rd_T35 d a).f1.f3)))))) || (!(((rd_T35 g a).f2) == ((rd_T35 d a).f2))))) = true := cc
             clear cc
             replace H := Option.bind_eq_some_iff.mp H
             obtain ⟨b1, ev, H⟩ := H
             replace H : (if b1 = T then ((shutterref11_Open.f k1 y z d m j A a).bind fun cv => (if cv = true then (if A = true then (shutterlaw14_EditGuards.l0 k1 a1 T (wrap64 (a + 1)) y z d m j A L M g O J I) else (if a = m then (shutterlaw14_EditGuards.l0 k1 a1 T (wrap64 (a + 1)) y z d m j A L M g O J I) else (none))) else (none))) else (none)) = some r := H
             have eW := Z ev
             clear ev
             by_cases cy : b1 = T
             ·rw [if_pos cy] at H
              have mf : (b1 == T) = true := beq_iff_eq.mpr cy
              have mg : (b1 != T) = false := bne_eq_false_iff_eq.mpr cy
              clear cy
              replace H := Option.bind_eq_some_iff.mp H
              obtain ⟨cv, ew, H⟩ := H
              replace H : (if cv = true then (if A = true then (shutterlaw14_EditGuards.l0 k1 a1 T (wrap64 (a + 1)) y z d m j A L M g O J I) else (if a = m then (shutterlaw14_EditGuards.l0 k1 a1 T (wrap64 (a + 1)) y z d m j A L M g O J I) else (none))) else (none)) = some r := H
              have eX := Z ew
              clear ew
              by_cases c7 : cv = true
              ·subst c7
               have H1 : (if A = true then (shutterlaw14_EditGuards.l0 k1 a1 T (wrap64 (a + 1)) y z d m j A L M g O J I) else (if a = m then (shutterlaw14_EditGuards.l0 k1 a1 T (wrap64 (a + 1)) y z d m j A L M g O J I) else (none))) = some r := by rw [if_pos rfl] at H; exact H
               clear H
               have H := H1
               clear H1
               by_cases c8 : A = true
               ·subst c8
                have H1 : (shutterlaw14_EditGuards.l0 k1 a1 T (wrap64 (a + 1)) y z d m j true L M g O J I) = some r := by rw [if_pos rfl] at H; exact H
                clear H
                have H := H1
                clear H1
                have H' := Z H
                clear H
                have mw := ab.out
                have mH := ar.out
                obtain ⟨iw, ix, iy, iz, iA, iB, kl, km, kn, ko, kp, kr⟩ := cells6 b.out
                try go_wp2
                have o := Z (Kd.V_drew HO_643002.out)
                have q := Z (blk_drew b.out)
                have B := Z (blk_drew c.out)
                have D := Z (below_drew1 HB.out)
                clear HO_643002
                clear b
                clear c
                clear HB
                have HO_643002 := o
                have b := q
                have c := B
                have HB := D
                clear o q B D
                have bo : 0 ≤ (a : Int) := od_
                have bq : a < (g.length : Int) := od_
                obtain ⟨R, b7, aO, aP, aQ, aR, aS, aT⟩ := at_T35 (Kd.V_reads' HO_643002.out).2.2 a bo bq
                cases b7
                replace bo := eq_true bo
                replace bq := eq_true bq
                have bp : 0 ≤ (a : Int) := od_
                have br : a < (d.length : Int) := od_
                obtain ⟨Q, b8, ac, ad, ae, af, ag, ah⟩ := at_T35 ap.out a bp br
                have an := ah
                have am := ag
                have al := af
                have ak := ae
                have aj := ad
                have ai := ac
                cases b8
                replace ac := (HB.out.cell (bk_ w _ ac)).trans ac
                replace ad := (HB.out.cell (bk_ w _ ad)).trans ad
                replace ae := (HB.out.cell (bk_ w _ ae)).trans ae
                replace af := (HB.out.cell (bk_ w _ af)).trans af
                replace ag := (HB.out.cell (bk_ w _ ag)).trans ag
                replace ah := (HB.out.cell (bk_ w _ ah)).trans ah
                replace bp := eq_true bp
                replace br := eq_true br
                refine start_ (n := 35) (S := fun w' => w'.cell? ⟨s, 0, none⟩ = some (.int .i64 L) ∧ w'.cell? ⟨s, 1, none⟩ = some (.int .i64 M) ∧ w'.cell? ⟨s, 2, none⟩ = some (.slice (some R) g.length bc) ∧ w'.cell? ⟨s, 3, none⟩ = some (.int .i64 O) ∧ w'.cell? ⟨s, 4, none⟩ = some (.bool J) ∧ w'.cell? ⟨s, 5, none⟩ = some (.bool I) ∧ w'.cell? ⟨x, 0, none⟩ = some (.int .i64 y) ∧ w'.cell? ⟨x, 1, none⟩ = some (.int .i64 z) ∧ w'.cell? ⟨x, 2, none⟩ = some (.slice (some Q) d.length aa) ∧ w'.cell? ⟨x, 3, none⟩ = some (.int .i64 m) ∧ w'.cell? ⟨x, 4, none⟩ = some (.bool j) ∧ w'.cell? ⟨x, 5, none⟩ = some (.bool true) ∧ w'.cell? (R.add ((a).toNat * 6)) = some (.bool ((rd_T35 g a).f0)) ∧ w'.cell? ⟨(R.add ((a).toNat * 6)).block, (R.add ((a).toNat * 6)).off + 1, none⟩ = some (.bool ((rd_T35 g a).f1.f0)) ∧ w'.cell? ⟨(R.add ((a).toNat * 6)).block, (R.add ((a).toNat * 6)).off + 2, none⟩ = some (.bool ((rd_T35 g a).f1.f1)) ∧ w'.cell? ⟨(R.add ((a).toNat * 6)).block, (R.add ((a).toNat * 6)).off + 3, none⟩ = some (.int .i64 ((rd_T35 g a).f1.f2)) ∧ w'.cell? ⟨(R.add ((a).toNat * 6)).block, (R.add ((a).toNat * 6)).off + 4, none⟩ = some (.bool ((rd_T35 g a).f1.f3)) ∧ w'.cell? ⟨(R.add ((a).toNat * 6)).block, (R.add ((a).toNat * 6)).off + 5, none⟩ = some (.int .u8 ((rd_T35 g a).f2)) ∧ w'.cell? (Q.add ((a).toNat * 6)) = some (.bool ((rd_T35 d a).f0)) ∧ w'.cell? ⟨(Q.add ((a).toNat * 6)).block, (Q.add ((a).toNat * 6)).off + 1, none⟩ = some (.bool ((rd_T35 d a).f1.f0)) ∧ w'.cell? ⟨(Q.add ((a).toNat * 6)).block, (Q.add ((a).toNat * 6)).off + 2, none⟩ = some (.bool ((rd_T35 d a).f1.f1)) ∧ w'.cell? ⟨(Q.add ((a).toNat * 6)).block, (Q.add ((a).toNat * 6)).off + 3, none⟩ = some (.int .i64 ((rd_T35 d a).f1.f2)) ∧ w'.cell? ⟨(Q.add ((a).toNat * 6)).block, (Q.add ((a).toNat * 6)).off + 4, none⟩ = some (.bool ((rd_T35 d a).f1.f3)) ∧ w'.cell? ⟨(Q.add ((a).toNat * 6)).block, (Q.add ((a).toNat * 6)).off + 5, none⟩ = some (.int .u8 ((rd_T35 d a).f2))) (ds := []) (bv 35 0) (by kernel_rfl) rfl rfl ⟨(blk_cell c.out 0).trans rfl, (blk_cell c.out 1).trans rfl, (blk_cell c.out 2).trans rfl, (blk_cell c.out 3).trans rfl, (blk_cell c.out 4).trans rfl, (blk_cell c.out 5).trans rfl, (blk_cell b.out 0).trans rfl, (blk_cell b.out 1).trans rfl, (blk_cell b.out 2).trans rfl, (blk_cell b.out 3).trans rfl, (blk_cell b.out 4).trans rfl, (blk_cell b.out 5).trans rfl, aO, aP, aQ, aR, aS, aT, ((HB.out.cell (bk_ w _ ai)).trans ai), ((HB.out.cell (bk_ w _ aj)).trans aj), ((HB.out.cell (bk_ w _ ak)).trans ak), ((HB.out.cell (bk_ w _ al)).trans al), ((HB.out.cell (bk_ w _ am)).trans am), ((HB.out.cell (bk_ w _ an)).trans an)⟩ (fun hHeld => ?_); refine with_tabW shutterlaw14_EditGuards.tab21 shutterlaw14_EditGuards.bits21 (fun HT_ HW_ => ?_)
                generalize wr.drew = nj at HO_643002 b c HB aO aP aQ aR aS aT ac ad ae af ag ah hHeld ⊢
                refine pure_ (i := 0) (N := some 112) (v := ?_) (a' := ?_) (bv 35 1) rfl rfl (any_of HT_.out (by kernel_rfl)) (fun _ _ _ h => h) (Or.inl ⟨by rfl, ?_⟩) ?_ ?_
                rotate_left
                ·intro w'
                 go_simp
                 with_reducible rfl
                rotate_left
                ·simp only [Act.put, sA, sB, sC, i64_w, i32_w]
                 rfl
                refine pure_ (i := 2) (N := some 114) (v := ?_) (a' := ?_) (bv 35 5) rfl rfl (any_of HT_.out (by kernel_rfl)) (fun _ _ _ h => h) (Or.inl ⟨by rfl, ?_⟩) ?_ ?_
                rotate_left
                ·intro w'
                 go_simp
                 with_reducible rfl
                rotate_left
                ·simp only [Act.put, sA, sB, sC, i64_w, i32_w]
                 rfl
                refine pure_ (i := 5) (N := some 117) (v := ?_) (a' := ?_) (bv 35 37) rfl rfl (any_of HT_.out (by kernel_rfl)) (fun _ _ _ h => h) (Or.inl ⟨by rfl, ?_⟩) ?_ ?_
                rotate_left
                ·intro w'
                 go_simp
                 with_reducible rfl
                rotate_left
                ·simp only [Act.put, sA, sB, sC, i64_w, i32_w]
                 rfl
                refine pure_ (i := 7) (N := some 119) (v := ?_) (a' := ?_) (bv 35 165) rfl rfl (any_of HT_.out (by kernel_rfl)) (fun _ _ _ h => h) (Or.inl ⟨by rfl, ?_⟩) ?_ ?_
                rotate_left
                ·intro w'
                 go_simp
                 with_reducible rfl
                rotate_left
                ·simp only [Act.put, sA, sB, sC, i64_w, i32_w]
                 rfl
                refine take_ (i := 1) (N := some 113) (v := ?_) (a' := ?_) (bv 35 167) rfl rfl (take_ofW HT_.out HW_.out (by kernel_rfl)) (fun _ _ _ h => h) (Or.inl ⟨by rfl, ?_⟩) hHeld ?_ ?_
                rotate_left
                ·rintro w' ⟨s0, s1, s2, s3, s4, s5, s6, s7, s8, s9, av, aw, ax, ay, az, aA, aB, aC, a6, a7, a8, a9, ba, bb⟩
                 go_simp
                 with_reducible rfl
                rotate_left
                ·simp only [Act.put, sA, sB, sC, i64_w, i32_w]
                 rfl
                refine pure_ (i := 3) (N := some 115) (v := ?_) (a' := ?_) (bv 35 175) rfl rfl (any_of HT_.out (by kernel_rfl)) (fun _ _ _ h => h) (Or.inl ⟨by rfl, ?_⟩) ?_ ?_
                rotate_left
                ·intro w'
                 go_simp
                 with_reducible rfl
                rotate_left
                ·simp only [Act.put, sA, sB, sC, i64_w, i32_w]
                 rfl
                refine take_ (i := 4) (N := some 116) (v := ?_) (a' := ?_) (bv 35 191) rfl rfl (take_ofW HT_.out HW_.out (by kernel_rfl)) (fun _ _ _ h => h) (Or.inl ⟨by rfl, ?_⟩) hHeld ?_ ?_
                rotate_left
                ·rintro w' ⟨s0, s1, s2, s3, s4, s5, s6, s7, s8, s9, av, aw, ax, ay, az, aA, aB, aC, a6, a7, a8, a9, ba, bb⟩
                 go_simp
                 with_reducible rfl
                rotate_left
                ·simp only [Act.put, sA, sB, sC, i64_w, i32_w]
                 rfl
                refine take_ (i := 6) (N := some 118) (v := ?_) (a' := ?_) (bv 35 255) rfl rfl (take_ofW HT_.out HW_.out (by kernel_rfl)) (fun _ _ _ h => h) (Or.inl ⟨by rfl, ?_⟩) hHeld ?_ ?_
                rotate_left
                ·rintro w' ⟨s0, s1, s2, s3, s4, s5, s6, s7, s8, s9, av, aw, ax, ay, az, aA, aB, aC, a6, a7, a8, a9, ba, bb⟩
                 go_simp
                 with_reducible rfl
                rotate_left
                ·simp only [Act.put, sA, sB, sC, i64_w, i32_w]
                 rfl
                refine pure_ (i := 8) (N := some 120) (v := ?_) (a' := ?_) (bv 35 511) rfl rfl (any_of HT_.out (by kernel_rfl)) (fun _ _ _ h => h) (Or.inl ⟨by rfl, ?_⟩) ?_ ?_
                rotate_left
                ·intro w'
                 go_simp
                 with_reducible rfl
                rotate_left
                ·simp only [Act.put, sA, sB, sC, i64_w, i32_w]
                 rfl
                refine take_ (i := 9) (N := some 121) (v := ?_) (a' := ?_) (bv 35 1023) rfl rfl (take_ofW HT_.out HW_.out (by kernel_rfl)) (fun _ _ _ h => h) (Or.inl ⟨by rfl, ?_⟩) hHeld ?_ ?_
                rotate_left
                ·rintro w' ⟨s0, s1, s2, s3, s4, s5, s6, s7, s8, s9, av, aw, ax, ay, az, aA, aB, aC, a6, a7, a8, a9, ba, bb⟩
                 go_simp
                 with_reducible rfl
                rotate_left
                ·simp only [Act.put, sA, sB, sC, i64_w, i32_w]
                 rfl
                refine pure_ (i := 10) (N := some 122) (v := ?_) (a' := ?_) (bv 35 2047) rfl rfl (any_of HT_.out (by kernel_rfl)) (fun _ _ _ h => h) (Or.inl ⟨by rfl, ?_⟩) ?_ ?_
                rotate_left
                ·intro w'
                 go_simp
                 with_reducible rfl
                rotate_left
                ·simp only [Act.put, sA, sB, sC, i64_w, i32_w]
                 rfl
                refine pure_ (i := 11) (N := some 123) (v := ?_) (a' := ?_) (bv 35 4095) rfl rfl (any_of HT_.out (by kernel_rfl)) (fun _ _ _ h => h) (Or.inl ⟨by rfl, ?_⟩) ?_ ?_
                rotate_left
                ·intro w'
                 go_simp
                 with_reducible rfl
                rotate_left
                ·simp only [Act.put, sA, sB, sC, i64_w, i32_w]
                 rfl
                refine pure_ (i := 13) (N := some 125) (v := ?_) (a' := ?_) (bv 35 12287) rfl rfl (any_of HT_.out (by kernel_rfl)) (fun _ _ _ h => h) (Or.inl ⟨by rfl, ?_⟩) ?_ ?_
                rotate_left
                ·intro w'
                 go_simp
                 with_reducible rfl
                rotate_left
                ·simp only [Act.put, sA, sB, sC, i64_w, i32_w]
                 rfl
                refine pure_ (i := 15) (N := some 127) (v := ?_) (a' := ?_) (bv 35 45055) rfl rfl (any_of HT_.out (by kernel_rfl)) (fun _ _ _ h => h) (Or.inl ⟨by rfl, ?_⟩) ?_ ?_
                rotate_left
                ·intro w'
                 go_simp
                 with_reducible rfl
                rotate_left
                ·simp only [Act.put, sA, sB, sC, i64_w, i32_w]
                 rfl
                refine take_ (i := 12) (N := some 124) (v := ?_) (a' := ?_) (bv 35 49151) rfl rfl (take_ofW HT_.out HW_.out (by kernel_rfl)) (fun _ _ _ h => h) (Or.inl ⟨by rfl, ?_⟩) hHeld ?_ ?_
                rotate_left
                ·rintro w' ⟨s0, s1, s2, s3, s4, s5, s6, s7, s8, s9, av, aw, ax, ay, az, aA, aB, aC, a6, a7, a8, a9, ba, bb⟩
                 go_simp
                 with_reducible rfl
                rotate_left
                ·simp only [Act.put, sA, sB, sC, i64_w, i32_w]
                 rfl
                refine one_ (i := 14) (N := some 126) (bv 35 65535) rfl rfl (one_of HT_.out (by kernel_rfl)) (by decide) (fun K hK => ?_)
                refine goes_ Tryd.func21 (by kernel_rfl) rfl #[.agg #[.int .i64 y, .int .i64 z, .slice (some Q) d.length aa, .int .i64 m, .bool j, .bool true], .int .i64 a] (by rfl) rfl rfl ag_ ?_
                with_reducible refine (shutterref11_Begin.calls k1 y z _ _ d m j true a b1 _ ?side1 ?side2 eW.out).mono ?_
                (case side1 => repeat (first | exact (Kd.C_below ap.out HB.out) | (with_reducible apply pC)))
                (case side2 => exact aH.out)
                rintro e nk ⟨rfl, hb⟩
                have bA := (hb.cell (bk_ _ _ (hHeld.2.2.2.2.2.2.2.2.2.2.2.2.1))).trans (hHeld.2.2.2.2.2.2.2.2.2.2.2.2.1)
                have bB := (hb.cell (bk_ _ _ (hHeld.2.2.2.2.2.2.2.2.2.2.2.2.2.1))).trans (hHeld.2.2.2.2.2.2.2.2.2.2.2.2.2.1)
                have bC := (hb.cell (bk_ _ _ (hHeld.2.2.2.2.2.2.2.2.2.2.2.2.2.2.1))).trans (hHeld.2.2.2.2.2.2.2.2.2.2.2.2.2.2.1)
                have bD := (hb.cell (bk_ _ _ (hHeld.2.2.2.2.2.2.2.2.2.2.2.2.2.2.2.1))).trans (hHeld.2.2.2.2.2.2.2.2.2.2.2.2.2.2.2.1)
                have bE := (hb.cell (bk_ _ _ (hHeld.2.2.2.2.2.2.2.2.2.2.2.2.2.2.2.2.1))).trans (hHeld.2.2.2.2.2.2.2.2.2.2.2.2.2.2.2.2.1)
                have bF := (hb.cell (bk_ _ _ (hHeld.2.2.2.2.2.2.2.2.2.2.2.2.2.2.2.2.2.1))).trans (hHeld.2.2.2.2.2.2.2.2.2.2.2.2.2.2.2.2.2.1)
                refine ⟨_, rfl, ?_⟩
                have o := Z (vb HO_643002.out hb)
                have q := Z (kb b.out hb)
                have B := Z (kb c.out hb)
                have D := Z (below_step bl_ hb)
                clear HO_643002
                clear b
                clear c
                clear HB
                have HO_643002 := o
                have b := q
                have c := B
                have HB := D
                clear o q B D
                (try clear hb)
                (try clear aL)
                (try clear hk)
                (try clear hi)
                refine hK.out _ _ ⟨(blk_cell c.out 0).trans rfl, (blk_cell c.out 1).trans rfl, (blk_cell c.out 2).trans rfl, (blk_cell c.out 3).trans rfl, (blk_cell c.out 4).trans rfl, (blk_cell c.out 5).trans rfl, (blk_cell b.out 0).trans rfl, (blk_cell b.out 1).trans rfl, (blk_cell b.out 2).trans rfl, (blk_cell b.out 3).trans rfl, (blk_cell b.out 4).trans rfl, (blk_cell b.out 5).trans rfl, bA, bB, bC, bD, bE, bF, ((HB.out.cell (bk_ w _ ai)).trans ai), ((HB.out.cell (bk_ w _ aj)).trans aj), ((HB.out.cell (bk_ w _ ak)).trans ak), ((HB.out.cell (bk_ w _ al)).trans al), ((HB.out.cell (bk_ w _ am)).trans am), ((HB.out.cell (bk_ w _ an)).trans an)⟩ (fun hHeld => ?_)
                clear hK K
                refine norm_ (a' := ?_) ?_ ?_
                rotate_left
                ·show Act.put _ (some 126) _ = _
                 simp only [Act.put, sA, sB, sC, i64_w, i32_w]
                 rfl
                refine pure_ (i := 16) (N := some 128) (v := ?_) (a' := ?_) (bv 35 131071) rfl rfl (any_of HT_.out (by kernel_rfl)) (fun _ _ _ h => h) (Or.inl ⟨by rfl, ?_⟩) ?_ ?_
                rotate_left
                ·intro w'
                 go_simp
                 with_reducible rfl
                rotate_left
                ·simp only [Act.put, sA, sB, sC, i64_w, i32_w]
                 rfl
                refine pure_ (i := 17) (N := some 129) (v := ?_) (a' := ?_) (bv 35 262143) rfl rfl (any_of HT_.out (by kernel_rfl)) (fun _ _ _ h => h) (Or.inl ⟨by rfl, ?_⟩) ?_ ?_
                rotate_left
                ·intro w'
                 go_simp
                 with_reducible rfl
                rotate_left
                ·simp only [Act.put, sA, sB, sC, i64_w, i32_w]
                 rfl
                refine pure_ (i := 19) (N := some 131) (v := ?_) (a' := ?_) (bv 35 786431) rfl rfl (any_of HT_.out (by kernel_rfl)) (fun _ _ _ h => h) (Or.inl ⟨by rfl, ?_⟩) ?_ ?_
                rotate_left
                ·intro w'
                 go_simp
                 with_reducible rfl
                rotate_left
                ·simp only [Act.put, sA, sB, sC, i64_w, i32_w]
                 rfl
                refine take_ (i := 18) (N := some 130) (v := ?_) (a' := ?_) (bv 35 1048575) rfl rfl (take_ofW HT_.out HW_.out (by kernel_rfl)) (fun _ _ _ h => h) (Or.inl ⟨by rfl, ?_⟩) hHeld ?_ ?_
                rotate_left
                ·rintro w' ⟨s0, s1, s2, s3, s4, s5, s6, s7, s8, s9, av, aw, ax, ay, az, aA, aB, aC, a6, a7, a8, a9, ba, bb⟩
                 go_simp
                 with_reducible rfl
                rotate_left
                ·simp only [Act.put, sA, sB, sC, i64_w, i32_w]
                 rfl
                refine one_ (i := 20) (N := some 132) (bv 35 2097151) rfl rfl (one_of HT_.out (by kernel_rfl)) (by decide) (fun K hK => ?_)
                refine goes_ Tryd.func22 (by kernel_rfl) rfl #[.agg #[.int .i64 y, .int .i64 z, .slice (some Q) d.length aa, .int .i64 m, .bool j, .bool true], .int .i64 a] (by rfl) rfl rfl ag_ ?_
                with_reducible refine (shutterref11_Open.calls k1 y z _ _ d m j true a true _ ?side1 ?side2 eX.out).mono ?_
                (case side1 => repeat (first | exact (Kd.C_below ap.out HB.out) | (with_reducible apply pC)))
                (case side2 => exact aH.out)
                rintro e nm ⟨rfl, hb⟩
                have bA := (hb.cell (bk_ _ _ (hHeld.2.2.2.2.2.2.2.2.2.2.2.2.1))).trans (hHeld.2.2.2.2.2.2.2.2.2.2.2.2.1)
                have bB := (hb.cell (bk_ _ _ (hHeld.2.2.2.2.2.2.2.2.2.2.2.2.2.1))).trans (hHeld.2.2.2.2.2.2.2.2.2.2.2.2.2.1)
                have bC := (hb.cell (bk_ _ _ (hHeld.2.2.2.2.2.2.2.2.2.2.2.2.2.2.1))).trans (hHeld.2.2.2.2.2.2.2.2.2.2.2.2.2.2.1)
                have bD := (hb.cell (bk_ _ _ (hHeld.2.2.2.2.2.2.2.2.2.2.2.2.2.2.2.1))).trans (hHeld.2.2.2.2.2.2.2.2.2.2.2.2.2.2.2.1)
                have bE := (hb.cell (bk_ _ _ (hHeld.2.2.2.2.2.2.2.2.2.2.2.2.2.2.2.2.1))).trans (hHeld.2.2.2.2.2.2.2.2.2.2.2.2.2.2.2.2.1)
                have bF := (hb.cell (bk_ _ _ (hHeld.2.2.2.2.2.2.2.2.2.2.2.2.2.2.2.2.2.1))).trans (hHeld.2.2.2.2.2.2.2.2.2.2.2.2.2.2.2.2.2.1)
                refine ⟨_, rfl, ?_⟩
                have o := Z (vb HO_643002.out hb)
                have q := Z (kb b.out hb)
                have B := Z (kb c.out hb)
                have D := Z (below_step bl_ hb)
                clear HO_643002
                clear b
                clear c
                clear HB
                have HO_643002 := o
                have b := q
                have c := B
                have HB := D
                clear o q B D
                (try clear hb)
                (try clear aL)
                (try clear hk)
                (try clear hi)
                refine hK.out _ _ ⟨(blk_cell c.out 0).trans rfl, (blk_cell c.out 1).trans rfl, (blk_cell c.out 2).trans rfl, (blk_cell c.out 3).trans rfl, (blk_cell c.out 4).trans rfl, (blk_cell c.out 5).trans rfl, (blk_cell b.out 0).trans rfl, (blk_cell b.out 1).trans rfl, (blk_cell b.out 2).trans rfl, (blk_cell b.out 3).trans rfl, (blk_cell b.out 4).trans rfl, (blk_cell b.out 5).trans rfl, bA, bB, bC, bD, bE, bF, ((HB.out.cell (bk_ w _ ai)).trans ai), ((HB.out.cell (bk_ w _ aj)).trans aj), ((HB.out.cell (bk_ w _ ak)).trans ak), ((HB.out.cell (bk_ w _ al)).trans al), ((HB.out.cell (bk_ w _ am)).trans am), ((HB.out.cell (bk_ w _ an)).trans an)⟩ (fun hHeld => ?_)
                clear hK K
                refine norm_ (a' := ?_) ?_ ?_
                rotate_left
                ·show Act.put _ (some 132) _ = _
                 simp only [Act.put, sA, sB, sC, i64_w, i32_w]
                 rfl
                refine pure_ (i := 21) (N := some 133) (v := ?_) (a' := ?_) (bv 35 4194303) rfl rfl (any_of HT_.out (by kernel_rfl)) (fun _ _ _ h => h) (Or.inl ⟨by rfl, ?_⟩) ?_ ?_
                rotate_left
                ·intro w'
                 go_simp
                 with_reducible rfl
                rotate_left
                ·simp only [Act.put, sA, sB, sC, i64_w, i32_w]
                 rfl
                refine pure_ (i := 22) (N := some 134) (v := ?_) (a' := ?_) (bv 35 8388607) rfl rfl (any_of HT_.out (by kernel_rfl)) (fun _ _ _ h => h) (Or.inl ⟨by rfl, ?_⟩) ?_ ?_
                rotate_left
                ·intro w'
                 go_simp
                 with_reducible rfl
                rotate_left
                ·simp only [Act.put, sA, sB, sC, i64_w, i32_w]
                 rfl
                refine pure_ (i := 23) (N := some 135) (v := ?_) (a' := ?_) (bv 35 16777215) rfl rfl (any_of HT_.out (by kernel_rfl)) (fun _ _ _ h => h) (Or.inl ⟨by rfl, ?_⟩) ?_ ?_
                rotate_left
                ·intro w'
                 go_simp
                 with_reducible rfl
                rotate_left
                ·simp only [Act.put, sA, sB, sC, i64_w, i32_w]
                 rfl
                refine pure_ (i := 24) (N := some 136) (v := ?_) (a' := ?_) (bv 35 33554431) rfl rfl (any_of HT_.out (by kernel_rfl)) (fun _ _ _ h => h) (Or.inl ⟨by rfl, ?_⟩) ?_ ?_
                rotate_left
                ·intro w'
                 go_simp
                 with_reducible rfl
                rotate_left
                ·simp only [Act.put, sA, sB, sC, i64_w, i32_w]
                 rfl
                refine take_ (i := 25) (N := some 137) (v := ?_) (a' := ?_) (bv 35 67108863) rfl rfl (take_ofW HT_.out HW_.out (by kernel_rfl)) (fun _ _ _ h => h) (Or.inl ⟨by rfl, ?_⟩) hHeld ?_ ?_
                rotate_left
                ·rintro w' ⟨s0, s1, s2, s3, s4, s5, s6, s7, s8, s9, av, aw, ax, ay, az, aA, aB, aC, a6, a7, a8, a9, ba, bb⟩
                 go_simp
                 with_reducible rfl
                rotate_left
                ·simp only [Act.put, sA, sB, sC, i64_w, i32_w]
                 rfl
                refine pure_ (i := 26) (N := some 138) (v := ?_) (a' := ?_) (bv 35 134217727) rfl rfl (any_of HT_.out (by kernel_rfl)) (fun _ _ _ h => h) (Or.inl ⟨by rfl, ?_⟩) ?_ ?_
                rotate_left
                ·intro w'
                 go_simp
                 with_reducible rfl
                rotate_left
                ·simp only [Act.put, sA, sB, sC, i64_w, i32_w]
                 rfl
                refine pure_ (i := 27) (N := some 139) (v := ?_) (a' := ?_) (bv 35 268435455) rfl rfl (any_of HT_.out (by kernel_rfl)) (fun _ _ _ h => h) (Or.inl ⟨by rfl, ?_⟩) ?_ ?_
                rotate_left
                ·intro w'
                 go_simp
                 with_reducible rfl
                rotate_left
                ·simp only [Act.put, sA, sB, sC, i64_w, i32_w]
                 rfl
                refine pure_ (i := 28) (N := some 140) (v := undef) (a' := ?_) (bv 35 536870911) rfl rfl (any_of HT_.out (by kernel_rfl)) (fun _ _ _ h => h) (Or.inr ⟨by rfl, rfl⟩) ?_ ?_
                rotate_left
                ·simp only [Act.put, sA, sB, sC, i64_w, i32_w]
                 rfl
                refine pure_ (i := 29) (N := some 141) (v := undef) (a' := ?_) (bv 35 1073741823) rfl rfl (any_of HT_.out (by kernel_rfl)) (fun _ _ _ h => h) (Or.inr ⟨by rfl, rfl⟩) ?_ ?_
                rotate_left
                ·simp only [Act.put, sA, sB, sC, i64_w, i32_w]
                 rfl
                refine pure_ (i := 30) (N := some 142) (v := undef) (a' := ?_) (bv 35 2147483647) rfl rfl (any_of HT_.out (by kernel_rfl)) (fun _ _ _ h => h) (Or.inr ⟨by rfl, rfl⟩) ?_ ?_
                rotate_left
                ·simp only [Act.put, sA, sB, sC, i64_w, i32_w]
                 rfl
                refine pure_ (i := 31) (N := some 143) (v := undef) (a' := ?_) (bv 35 4294967295) rfl rfl (any_of HT_.out (by kernel_rfl)) (fun _ _ _ h => h) (Or.inr ⟨by rfl, rfl⟩) ?_ ?_
                rotate_left
                ·simp only [Act.put, sA, sB, sC, i64_w, i32_w]
                 rfl
                refine pure_ (i := 32) (N := some 144) (v := ?_) (a' := ?_) (bv 35 8589934591) rfl rfl (any_of HT_.out (by kernel_rfl)) (fun _ _ _ h => h) (Or.inl ⟨by rfl, ?_⟩) ?_ ?_
                rotate_left
                ·intro w'
                 go_simp
                 with_reducible rfl
                rotate_left
                ·simp only [Act.put, sA, sB, sC, i64_w, i32_w]
                 rfl
                refine pure_ (i := 33) (N := some 145) (v := ?_) (a' := ?_) (bv 35 17179869183) rfl rfl (any_of HT_.out (by kernel_rfl)) (fun _ _ _ h => h) (Or.inl ⟨by rfl, ?_⟩) ?_ ?_
                rotate_left
                ·intro w'
                 go_simp
                 with_reducible rfl
                rotate_left
                ·simp only [Act.put, sA, sB, sC, i64_w, i32_w]
                 rfl
                refine pure_ (i := 34) (N := some 146) (v := ?_) (a' := ?_) (bv 35 34359738367) rfl rfl (any_of HT_.out (by kernel_rfl)) (fun _ _ _ h => h) (Or.inl ⟨by rfl, ?_⟩) ?_ ?_
                rotate_left
                ·intro w'
                 go_simp
                 with_reducible rfl
                rotate_left
                ·simp only [Act.put, sA, sB, sC, i64_w, i32_w]
                 rfl
                refine done_ (done_of HT_.out (by kernel_rfl)) ?_
                try go_wp2
                go_roundg k1
                case measure => have := b2.out; omega
                case rel => exact ⟨(wrap64 (a + 1)), (by first | rfl | (simp; done) | (simp [*]; done)), H', ⟨by have := b2.out; omega⟩, ⟨by (with_reducible repeat apply pV); exact HO_643002.out⟩, ⟨by (with_reducible repeat apply pK); exact b.out⟩, ⟨by (with_reducible repeat apply pK); exact c.out⟩, ⟨bl_⟩⟩
               ·replace c8 := Bool.eq_false_iff.mpr c8
                subst c8
                have H1 : (if a = m then (shutterlaw14_EditGuards.l0 k1 a1 T (wrap64 (a + 1)) y z d m j false L M g O J I) else (none)) = some r := by rw [if_neg (show ¬ (false = true) by decide)] at H; exact H
                clear H
                have H := H1
                clear H1
                by_cases cz : a = m
                ·rw [if_pos cz] at H
                 have mh : (a == m) = true := beq_iff_eq.mpr cz
                 have mi : (a != m) = false := bne_eq_false_iff_eq.mpr cz
                 clear cz
                 have H' := Z H
                 clear H
                 have mx := ab.out
                 have mI := ar.out
                 obtain ⟨iC, iD, iE, iF, iG, iH, ks, kt, ku, kv, kw, kx⟩ := cells6 b.out
                 try go_wp2
                 have o := Z (Kd.V_drew HO_643002.out)
                 have q := Z (blk_drew b.out)
                 have B := Z (blk_drew c.out)
                 have D := Z (below_drew1 HB.out)
                 clear HO_643002
                 clear b
                 clear c
                 clear HB
                 have HO_643002 := o
                 have b := q
                 have c := B
                 have HB := D
                 clear o q B D
                 have bo : 0 ≤ (a : Int) := od_
                 have bq : a < (g.length : Int) := od_
                 obtain ⟨R, b7, aO, aP, aQ, aR, aS, aT⟩ := at_T35 (Kd.V_reads' HO_643002.out).2.2 a bo bq
                 cases b7
                 replace bo := eq_true bo
                 replace bq := eq_true bq
                 have bp : 0 ≤ (a : Int) := od_
                 have br : a < (d.length : Int) := od_
                 obtain ⟨Q, b8, ac, ad, ae, af, ag, ah⟩ := at_T35 ap.out a bp br
                 have an := ah
                 have am := ag
                 have al := af
                 have ak := ae
                 have aj := ad
                 have ai := ac
                 cases b8
                 replace ac := (HB.out.cell (bk_ w _ ac)).trans ac
                 replace ad := (HB.out.cell (bk_ w _ ad)).trans ad
                 replace ae := (HB.out.cell (bk_ w _ ae)).trans ae
                 replace af := (HB.out.cell (bk_ w _ af)).trans af
                 replace ag := (HB.out.cell (bk_ w _ ag)).trans ag
                 replace ah := (HB.out.cell (bk_ w _ ah)).trans ah
                 replace bp := eq_true bp
                 replace br := eq_true br
                 refine start_ (n := 35) (S := fun w' => w'.cell? ⟨s, 0, none⟩ = some (.int .i64 L) ∧ w'.cell? ⟨s, 1, none⟩ = some (.int .i64 M) ∧ w'.cell? ⟨s, 2, none⟩ = some (.slice (some R) g.length bc) ∧ w'.cell? ⟨s, 3, none⟩ = some (.int .i64 O) ∧ w'.cell? ⟨s, 4, none⟩ = some (.bool J) ∧ w'.cell? ⟨s, 5, none⟩ = some (.bool I) ∧ w'.cell? ⟨x, 0, none⟩ = some (.int .i64 y) ∧ w'.cell? ⟨x, 1, none⟩ = some (.int .i64 z) ∧ w'.cell? ⟨x, 2, none⟩ = some (.slice (some Q) d.length aa) ∧ w'.cell? ⟨x, 3, none⟩ = some (.int .i64 m) ∧ w'.cell? ⟨x, 4, none⟩ = some (.bool j) ∧ w'.cell? ⟨x, 5, none⟩ = some (.bool false) ∧ w'.cell? (R.add ((a).toNat * 6)) = some (.bool ((rd_T35 g a).f0)) ∧ w'.cell? ⟨(R.add ((a).toNat * 6)).block, (R.add ((a).toNat * 6)).off + 1, none⟩ = some (.bool ((rd_T35 g a).f1.f0)) ∧ w'.cell? ⟨(R.add ((a).toNat * 6)).block, (R.add ((a).toNat * 6)).off + 2, none⟩ = some (.bool ((rd_T35 g a).f1.f1)) ∧ w'.cell? ⟨(R.add ((a).toNat * 6)).block, (R.add ((a).toNat * 6)).off + 3, none⟩ = some (.int .i64 ((rd_T35 g a).f1.f2)) ∧ w'.cell? ⟨(R.add ((a).toNat * 6)).block, (R.add ((a).toNat * 6)).off + 4, none⟩ = some (.bool ((rd_T35 g a).f1.f3)) ∧ w'.cell? ⟨(R.add ((a).toNat * 6)).block, (R.add ((a).toNat * 6)).off + 5, none⟩ = some (.int .u8 ((rd_T35 g a).f2)) ∧ w'.cell? (Q.add ((a).toNat * 6)) = some (.bool ((rd_T35 d a).f0)) ∧ w'.cell? ⟨(Q.add ((a).toNat * 6)).block, (Q.add ((a).toNat * 6)).off + 1, none⟩ = some (.bool ((rd_T35 d a).f1.f0)) ∧ w'.cell? ⟨(Q.add ((a).toNat * 6)).block, (Q.add ((a).toNat * 6)).off + 2, none⟩ = some (.bool ((rd_T35 d a).f1.f1)) ∧ w'.cell? ⟨(Q.add ((a).toNat * 6)).block, (Q.add ((a).toNat * 6)).off + 3, none⟩ = some (.int .i64 ((rd_T35 d a).f1.f2)) ∧ w'.cell? ⟨(Q.add ((a).toNat * 6)).block, (Q.add ((a).toNat * 6)).off + 4, none⟩ = some (.bool ((rd_T35 d a).f1.f3)) ∧ w'.cell? ⟨(Q.add ((a).toNat * 6)).block, (Q.add ((a).toNat * 6)).off + 5, none⟩ = some (.int .u8 ((rd_T35 d a).f2))) (ds := []) (bv 35 0) (by kernel_rfl) rfl rfl ⟨(blk_cell c.out 0).trans rfl, (blk_cell c.out 1).trans rfl, (blk_cell c.out 2).trans rfl, (blk_cell c.out 3).trans rfl, (blk_cell c.out 4).trans rfl, (blk_cell c.out 5).trans rfl, (blk_cell b.out 0).trans rfl, (blk_cell b.out 1).trans rfl, (blk_cell b.out 2).trans rfl, (blk_cell b.out 3).trans rfl, (blk_cell b.out 4).trans rfl, (blk_cell b.out 5).trans rfl, aO, aP, aQ, aR, aS, aT, ((HB.out.cell (bk_ w _ ai)).trans ai), ((HB.out.cell (bk_ w _ aj)).trans aj), ((HB.out.cell (bk_ w _ ak)).trans ak), ((HB.out.cell (bk_ w _ al)).trans al), ((HB.out.cell (bk_ w _ am)).trans am), ((HB.out.cell (bk_ w _ an)).trans an)⟩ (fun hHeld => ?_); refine with_tabW shutterlaw14_EditGuards.tab21 shutterlaw14_EditGuards.bits21 (fun HT_ HW_ => ?_)
                 generalize wr.drew = nn at HO_643002 b c HB aO aP aQ aR aS aT ac ad ae af ag ah hHeld ⊢
                 refine pure_ (i := 0) (N := some 112) (v := ?_) (a' := ?_) (bv 35 1) rfl rfl (any_of HT_.out (by kernel_rfl)) (fun _ _ _ h => h) (Or.inl ⟨by rfl, ?_⟩) ?_ ?_
                 rotate_left
                 ·intro w'
                  go_simp
                  with_reducible rfl
                 rotate_left
                 ·simp only [Act.put, sA, sB, sC, i64_w, i32_w]
                  rfl
                 refine pure_ (i := 2) (N := some 114) (v := ?_) (a' := ?_) (bv 35 5) rfl rfl (any_of HT_.out (by kernel_rfl)) (fun _ _ _ h => h) (Or.inl ⟨by rfl, ?_⟩) ?_ ?_
                 rotate_left
                 ·intro w'
                  go_simp
                  with_reducible rfl
                 rotate_left
                 ·simp only [Act.put, sA, sB, sC, i64_w, i32_w]
                  rfl
                 refine pure_ (i := 5) (N := some 117) (v := ?_) (a' := ?_) (bv 35 37) rfl rfl (any_of HT_.out (by kernel_rfl)) (fun _ _ _ h => h) (Or.inl ⟨by rfl, ?_⟩) ?_ ?_
                 rotate_left
                 ·intro w'
                  go_simp
                  with_reducible rfl
                 rotate_left
                 ·simp only [Act.put, sA, sB, sC, i64_w, i32_w]
                  rfl
                 refine pure_ (i := 7) (N := some 119) (v := ?_) (a' := ?_) (bv 35 165) rfl rfl (any_of HT_.out (by kernel_rfl)) (fun _ _ _ h => h) (Or.inl ⟨by rfl, ?_⟩) ?_ ?_
                 rotate_left
                 ·intro w'
                  go_simp
                  with_reducible rfl
                 rotate_left
                 ·simp only [Act.put, sA, sB, sC, i64_w, i32_w]
                  rfl
                 refine take_ (i := 1) (N := some 113) (v := ?_) (a' := ?_) (bv 35 167) rfl rfl (take_ofW HT_.out HW_.out (by kernel_rfl)) (fun _ _ _ h => h) (Or.inl ⟨by rfl, ?_⟩) hHeld ?_ ?_
                 rotate_left
                 ·rintro w' ⟨s0, s1, s2, s3, s4, s5, s6, s7, s8, s9, av, aw, ax, ay, az, aA, aB, aC, a6, a7, a8, a9, ba, bb⟩
                  go_simp
                  with_reducible rfl
                 rotate_left
                 ·simp only [Act.put, sA, sB, sC, i64_w, i32_w]
                  rfl
                 refine pure_ (i := 3) (N := some 115) (v := ?_) (a' := ?_) (bv 35 175) rfl rfl (any_of HT_.out (by kernel_rfl)) (fun _ _ _ h => h) (Or.inl ⟨by rfl, ?_⟩) ?_ ?_
                 rotate_left
                 ·intro w'
                  go_simp
                  with_reducible rfl
                 rotate_left
                 ·simp only [Act.put, sA, sB, sC, i64_w, i32_w]
                  rfl
                 refine take_ (i := 4) (N := some 116) (v := ?_) (a' := ?_) (bv 35 191) rfl rfl (take_ofW HT_.out HW_.out (by kernel_rfl)) (fun _ _ _ h => h) (Or.inl ⟨by rfl, ?_⟩) hHeld ?_ ?_
                 rotate_left
                 ·rintro w' ⟨s0, s1, s2, s3, s4, s5, s6, s7, s8, s9, av, aw, ax, ay, az, aA, aB, aC, a6, a7, a8, a9, ba, bb⟩
                  go_simp
                  with_reducible rfl
                 rotate_left
                 ·simp only [Act.put, sA, sB, sC, i64_w, i32_w]
                  rfl
                 refine take_ (i := 6) (N := some 118) (v := ?_) (a' := ?_) (bv 35 255) rfl rfl (take_ofW HT_.out HW_.out (by kernel_rfl)) (fun _ _ _ h => h) (Or.inl ⟨by rfl, ?_⟩) hHeld ?_ ?_
                 rotate_left
                 ·rintro w' ⟨s0, s1, s2, s3, s4, s5, s6, s7, s8, s9, av, aw, ax, ay, az, aA, aB, aC, a6, a7, a8, a9, ba, bb⟩
                  go_simp
                  with_reducible rfl
                 rotate_left
                 ·simp only [Act.put, sA, sB, sC, i64_w, i32_w]
                  rfl
                 refine pure_ (i := 8) (N := some 120) (v := ?_) (a' := ?_) (bv 35 511) rfl rfl (any_of HT_.out (by kernel_rfl)) (fun _ _ _ h => h) (Or.inl ⟨by rfl, ?_⟩) ?_ ?_
                 rotate_left
                 ·intro w'
                  go_simp
                  with_reducible rfl
                 rotate_left
                 ·simp only [Act.put, sA, sB, sC, i64_w, i32_w]
                  rfl
                 refine take_ (i := 9) (N := some 121) (v := ?_) (a' := ?_) (bv 35 1023) rfl rfl (take_ofW HT_.out HW_.out (by kernel_rfl)) (fun _ _ _ h => h) (Or.inl ⟨by rfl, ?_⟩) hHeld ?_ ?_
                 rotate_left
                 ·rintro w' ⟨s0, s1, s2, s3, s4, s5, s6, s7, s8, s9, av, aw, ax, ay, az, aA, aB, aC, a6, a7, a8, a9, ba, bb⟩
                  go_simp
                  with_reducible rfl
                 rotate_left
                 ·simp only [Act.put, sA, sB, sC, i64_w, i32_w]
                  rfl
                 refine pure_ (i := 10) (N := some 122) (v := ?_) (a' := ?_) (bv 35 2047) rfl rfl (any_of HT_.out (by kernel_rfl)) (fun _ _ _ h => h) (Or.inl ⟨by rfl, ?_⟩) ?_ ?_
                 rotate_left
                 ·intro w'
                  go_simp
                  with_reducible rfl
                 rotate_left
                 ·simp only [Act.put, sA, sB, sC, i64_w, i32_w]
                  rfl
                 refine pure_ (i := 11) (N := some 123) (v := ?_) (a' := ?_) (bv 35 4095) rfl rfl (any_of HT_.out (by kernel_rfl)) (fun _ _ _ h => h) (Or.inl ⟨by rfl, ?_⟩) ?_ ?_
                 rotate_left
                 ·intro w'
                  go_simp
                  with_reducible rfl
                 rotate_left
                 ·simp only [Act.put, sA, sB, sC, i64_w, i32_w]
                  rfl
                 refine pure_ (i := 13) (N := some 125) (v := ?_) (a' := ?_) (bv 35 12287) rfl rfl (any_of HT_.out (by kernel_rfl)) (fun _ _ _ h => h) (Or.inl ⟨by rfl, ?_⟩) ?_ ?_
                 rotate_left
                 ·intro w'
                  go_simp
                  with_reducible rfl
                 rotate_left
                 ·simp only [Act.put, sA, sB, sC, i64_w, i32_w]
                  rfl
                 refine pure_ (i := 15) (N := some 127) (v := ?_) (a' := ?_) (bv 35 45055) rfl rfl (any_of HT_.out (by kernel_rfl)) (fun _ _ _ h => h) (Or.inl ⟨by rfl, ?_⟩) ?_ ?_
                 rotate_left
                 ·intro w'
                  go_simp
                  with_reducible rfl
                 rotate_left
                 ·simp only [Act.put, sA, sB, sC, i64_w, i32_w]
                  rfl
                 refine take_ (i := 12) (N := some 124) (v := ?_) (a' := ?_) (bv 35 49151) rfl rfl (take_ofW HT_.out HW_.out (by kernel_rfl)) (fun _ _ _ h => h) (Or.inl ⟨by rfl, ?_⟩) hHeld ?_ ?_
                 rotate_left
                 ·rintro w' ⟨s0, s1, s2, s3, s4, s5, s6, s7, s8, s9, av, aw, ax, ay, az, aA, aB, aC, a6, a7, a8, a9, ba, bb⟩
                  go_simp
                  with_reducible rfl
                 rotate_left
                 ·simp only [Act.put, sA, sB, sC, i64_w, i32_w]
                  rfl
                 refine one_ (i := 14) (N := some 126) (bv 35 65535) rfl rfl (one_of HT_.out (by kernel_rfl)) (by decide) (fun K hK => ?_)
                 refine goes_ Tryd.func21 (by kernel_rfl) rfl #[.agg #[.int .i64 y, .int .i64 z, .slice (some Q) d.length aa, .int .i64 m, .bool j, .bool false], .int .i64 a] (by rfl) rfl rfl ag_ ?_
                 with_reducible refine (shutterref11_Begin.calls k1 y z _ _ d m j false a b1 _ ?side1 ?side2 eW.out).mono ?_
                 (case side1 => repeat (first | exact (Kd.C_below ap.out HB.out) | (with_reducible apply pC)))
                 (case side2 => exact aH.out)
                 rintro e no ⟨rfl, hb⟩
                 have bA := (hb.cell (bk_ _ _ (hHeld.2.2.2.2.2.2.2.2.2.2.2.2.1))).trans (hHeld.2.2.2.2.2.2.2.2.2.2.2.2.1)
                 have bB := (hb.cell (bk_ _ _ (hHeld.2.2.2.2.2.2.2.2.2.2.2.2.2.1))).trans (hHeld.2.2.2.2.2.2.2.2.2.2.2.2.2.1)
                 have bC := (hb.cell (bk_ _ _ (hHeld.2.2.2.2.2.2.2.2.2.2.2.2.2.2.1))).trans (hHeld.2.2.2.2.2.2.2.2.2.2.2.2.2.2.1)
                 have bD := (hb.cell (bk_ _ _ (hHeld.2.2.2.2.2.2.2.2.2.2.2.2.2.2.2.1))).trans (hHeld.2.2.2.2.2.2.2.2.2.2.2.2.2.2.2.1)
                 have bE := (hb.cell (bk_ _ _ (hHeld.2.2.2.2.2.2.2.2.2.2.2.2.2.2.2.2.1))).trans (hHeld.2.2.2.2.2.2.2.2.2.2.2.2.2.2.2.2.1)
                 have bF := (hb.cell (bk_ _ _ (hHeld.2.2.2.2.2.2.2.2.2.2.2.2.2.2.2.2.2.1))).trans (hHeld.2.2.2.2.2.2.2.2.2.2.2.2.2.2.2.2.2.1)
                 refine ⟨_, rfl, ?_⟩
                 have o := Z (vb HO_643002.out hb)
                 have q := Z (kb b.out hb)
                 have B := Z (kb c.out hb)
                 have D := Z (below_step bl_ hb)
                 clear HO_643002
                 clear b
                 clear c
                 clear HB
                 have HO_643002 := o
                 have b := q
                 have c := B
                 have HB := D
                 clear o q B D
                 (try clear hb)
                 (try clear aL)
                 (try clear hk)
                 (try clear hi)
                 refine hK.out _ _ ⟨(blk_cell c.out 0).trans rfl, (blk_cell c.out 1).trans rfl, (blk_cell c.out 2).trans rfl, (blk_cell c.out 3).trans rfl, (blk_cell c.out 4).trans rfl, (blk_cell c.out 5).trans rfl, (blk_cell b.out 0).trans rfl, (blk_cell b.out 1).trans rfl, (blk_cell b.out 2).trans rfl, (blk_cell b.out 3).trans rfl, (blk_cell b.out 4).trans rfl, (blk_cell b.out 5).trans rfl, bA, bB, bC, bD, bE, bF, ((HB.out.cell (bk_ w _ ai)).trans ai), ((HB.out.cell (bk_ w _ aj)).trans aj), ((HB.out.cell (bk_ w _ ak)).trans ak), ((HB.out.cell (bk_ w _ al)).trans al), ((HB.out.cell (bk_ w _ am)).trans am), ((HB.out.cell (bk_ w _ an)).trans an)⟩ (fun hHeld => ?_)
                 clear hK K
                 refine norm_ (a' := ?_) ?_ ?_
                 rotate_left
                 ·show Act.put _ (some 126) _ = _
                  simp only [Act.put, sA, sB, sC, i64_w, i32_w]
                  rfl
                 refine pure_ (i := 16) (N := some 128) (v := ?_) (a' := ?_) (bv 35 131071) rfl rfl (any_of HT_.out (by kernel_rfl)) (fun _ _ _ h => h) (Or.inl ⟨by rfl, ?_⟩) ?_ ?_
                 rotate_left
                 ·intro w'
                  go_simp
                  with_reducible rfl
                 rotate_left
                 ·simp only [Act.put, sA, sB, sC, i64_w, i32_w]
                  rfl
                 refine pure_ (i := 17) (N := some 129) (v := ?_) (a' := ?_) (bv 35 262143) rfl rfl (any_of HT_.out (by kernel_rfl)) (fun _ _ _ h => h) (Or.inl ⟨by rfl, ?_⟩) ?_ ?_
                 rotate_left
                 ·intro w'
                  go_simp
                  with_reducible rfl
                 rotate_left
                 ·simp only [Act.put, sA, sB, sC, i64_w, i32_w]
                  rfl
                 refine pure_ (i := 19) (N := some 131) (v := ?_) (a' := ?_) (bv 35 786431) rfl rfl (any_of HT_.out (by kernel_rfl)) (fun _ _ _ h => h) (Or.inl ⟨by rfl, ?_⟩) ?_ ?_
                 rotate_left
                 ·intro w'
                  go_simp
                  with_reducible rfl
                 rotate_left
                 ·simp only [Act.put, sA, sB, sC, i64_w, i32_w]
                  rfl
                 refine take_ (i := 18) (N := some 130) (v := ?_) (a' := ?_) (bv 35 1048575) rfl rfl (take_ofW HT_.out HW_.out (by kernel_rfl)) (fun _ _ _ h => h) (Or.inl ⟨by rfl, ?_⟩) hHeld ?_ ?_
                 rotate_left
                 ·rintro w' ⟨s0, s1, s2, s3, s4, s5, s6, s7, s8, s9, av, aw, ax, ay, az, aA, aB, aC, a6, a7, a8, a9, ba, bb⟩
                  go_simp
                  with_reducible rfl
                 rotate_left
                 ·simp only [Act.put, sA, sB, sC, i64_w, i32_w]
                  rfl
                 refine one_ (i := 20) (N := some 132) (bv 35 2097151) rfl rfl (one_of HT_.out (by kernel_rfl)) (by decide) (fun K hK => ?_)
                 refine goes_ Tryd.func22 (by kernel_rfl) rfl #[.agg #[.int .i64 y, .int .i64 z, .slice (some Q) d.length aa, .int .i64 m, .bool j, .bool false], .int .i64 a] (by rfl) rfl rfl ag_ ?_
                 with_reducible refine (shutterref11_Open.calls k1 y z _ _ d m j false a true _ ?side1 ?side2 eX.out).mono ?_
                 (case side1 => repeat (first | exact (Kd.C_below ap.out HB.out) | (with_reducible apply pC)))
                 (case side2 => exact aH.out)
                 rintro e np ⟨rfl, hb⟩
                 have bA := (hb.cell (bk_ _ _ (hHeld.2.2.2.2.2.2.2.2.2.2.2.2.1))).trans (hHeld.2.2.2.2.2.2.2.2.2.2.2.2.1)
                 have bB := (hb.cell (bk_ _ _ (hHeld.2.2.2.2.2.2.2.2.2.2.2.2.2.1))).trans (hHeld.2.2.2.2.2.2.2.2.2.2.2.2.2.1)
                 have bC := (hb.cell (bk_ _ _ (hHeld.2.2.2.2.2.2.2.2.2.2.2.2.2.2.1))).trans (hHeld.2.2.2.2.2.2.2.2.2.2.2.2.2.2.1)
                 have bD := (hb.cell (bk_ _ _ (hHeld.2.2.2.2.2.2.2.2.2.2.2.2.2.2.2.1))).trans (hHeld.2.2.2.2.2.2.2.2.2.2.2.2.2.2.2.1)
                 have bE := (hb.cell (bk_ _ _ (hHeld.2.2.2.2.2.2.2.2.2.2.2.2.2.2.2.2.1))).trans (hHeld.2.2.2.2.2.2.2.2.2.2.2.2.2.2.2.2.1)
                 have bF := (hb.cell (bk_ _ _ (hHeld.2.2.2.2.2.2.2.2.2.2.2.2.2.2.2.2.2.1))).trans (hHeld.2.2.2.2.2.2.2.2.2.2.2.2.2.2.2.2.2.1)
                 refine ⟨_, rfl, ?_⟩
                 have o := Z (vb HO_643002.out hb)
                 have q := Z (kb b.out hb)
                 have B := Z (kb c.out hb)
                 have D := Z (below_step bl_ hb)
                 clear HO_643002
                 clear b
                 clear c
                 clear HB
                 have HO_643002 := o
                 have b := q
                 have c := B
                 have HB := D
                 clear o q B D
                 (try clear hb)
                 (try clear aL)
                 (try clear hk)
                 (try clear hi)
                 refine hK.out _ _ ⟨(blk_cell c.out 0).trans rfl, (blk_cell c.out 1).trans rfl, (blk_cell c.out 2).trans rfl, (blk_cell c.out 3).trans rfl, (blk_cell c.out 4).trans rfl, (blk_cell c.out 5).trans rfl, (blk_cell b.out 0).trans rfl, (blk_cell b.out 1).trans rfl, (blk_cell b.out 2).trans rfl, (blk_cell b.out 3).trans rfl, (blk_cell b.out 4).trans rfl, (blk_cell b.out 5).trans rfl, bA, bB, bC, bD, bE, bF, ((HB.out.cell (bk_ w _ ai)).trans ai), ((HB.out.cell (bk_ w _ aj)).trans aj), ((HB.out.cell (bk_ w _ ak)).trans ak), ((HB.out.cell (bk_ w _ al)).trans al), ((HB.out.cell (bk_ w _ am)).trans am), ((HB.out.cell (bk_ w _ an)).trans an)⟩ (fun hHeld => ?_)
                 clear hK K
                 refine norm_ (a' := ?_) ?_ ?_
                 rotate_left
                 ·show Act.put _ (some 132) _ = _
                  simp only [Act.put, sA, sB, sC, i64_w, i32_w]
                  rfl
                 refine pure_ (i := 21) (N := some 133) (v := ?_) (a' := ?_) (bv 35 4194303) rfl rfl (any_of HT_.out (by kernel_rfl)) (fun _ _ _ h => h) (Or.inl ⟨by rfl, ?_⟩) ?_ ?_
                 rotate_left
                 ·intro w'
                  go_simp
                  with_reducible rfl
                 rotate_left
                 ·simp only [Act.put, sA, sB, sC, i64_w, i32_w]
                  rfl
                 refine pure_ (i := 22) (N := some 134) (v := ?_) (a' := ?_) (bv 35 8388607) rfl rfl (any_of HT_.out (by kernel_rfl)) (fun _ _ _ h => h) (Or.inl ⟨by rfl, ?_⟩) ?_ ?_
                 rotate_left
                 ·intro w'
                  go_simp
                  with_reducible rfl
                 rotate_left
                 ·simp only [Act.put, sA, sB, sC, i64_w, i32_w]
                  rfl
                 refine pure_ (i := 23) (N := some 135) (v := ?_) (a' := ?_) (bv 35 16777215) rfl rfl (any_of HT_.out (by kernel_rfl)) (fun _ _ _ h => h) (Or.inl ⟨by rfl, ?_⟩) ?_ ?_
                 rotate_left
                 ·intro w'
                  go_simp
                  with_reducible rfl
                 rotate_left
                 ·simp only [Act.put, sA, sB, sC, i64_w, i32_w]
                  rfl
                 refine pure_ (i := 24) (N := some 136) (v := ?_) (a' := ?_) (bv 35 33554431) rfl rfl (any_of HT_.out (by kernel_rfl)) (fun _ _ _ h => h) (Or.inl ⟨by rfl, ?_⟩) ?_ ?_
                 rotate_left
                 ·intro w'
                  go_simp
                  with_reducible rfl
                 rotate_left
                 ·simp only [Act.put, sA, sB, sC, i64_w, i32_w]
                  rfl
                 refine take_ (i := 25) (N := some 137) (v := ?_) (a' := ?_) (bv 35 67108863) rfl rfl (take_ofW HT_.out HW_.out (by kernel_rfl)) (fun _ _ _ h => h) (Or.inl ⟨by rfl, ?_⟩) hHeld ?_ ?_
                 rotate_left
                 ·rintro w' ⟨s0, s1, s2, s3, s4, s5, s6, s7, s8, s9, av, aw, ax, ay, az, aA, aB, aC, a6, a7, a8, a9, ba, bb⟩
                  go_simp
                  with_reducible rfl
                 rotate_left
                 ·simp only [Act.put, sA, sB, sC, i64_w, i32_w]
                  rfl
                 refine pure_ (i := 26) (N := some 138) (v := ?_) (a' := ?_) (bv 35 134217727) rfl rfl (any_of HT_.out (by kernel_rfl)) (fun _ _ _ h => h) (Or.inl ⟨by rfl, ?_⟩) ?_ ?_
                 rotate_left
                 ·intro w'
                  go_simp
                  with_reducible rfl
                 rotate_left
                 ·simp only [Act.put, sA, sB, sC, i64_w, i32_w]
                  rfl
                 refine pure_ (i := 27) (N := some 139) (v := ?_) (a' := ?_) (bv 35 268435455) rfl rfl (any_of HT_.out (by kernel_rfl)) (fun _ _ _ h => h) (Or.inl ⟨by rfl, ?_⟩) ?_ ?_
                 rotate_left
                 ·intro w'
                  go_simp
                  with_reducible rfl
                 rotate_left
                 ·simp only [Act.put, sA, sB, sC, i64_w, i32_w]
                  rfl
                 refine pure_ (i := 28) (N := some 140) (v := ?_) (a' := ?_) (bv 35 536870911) rfl rfl (any_of HT_.out (by kernel_rfl)) (fun _ _ _ h => h) (Or.inl ⟨by rfl, ?_⟩) ?_ ?_
                 rotate_left
                 ·intro w'
                  go_simp
                  with_reducible rfl
                 rotate_left
                 ·simp only [Act.put, sA, sB, sC, i64_w, i32_w]
                  rfl
                 refine pure_ (i := 29) (N := some 141) (v := ?_) (a' := ?_) (bv 35 1073741823) rfl rfl (any_of HT_.out (by kernel_rfl)) (fun _ _ _ h => h) (Or.inl ⟨by rfl, ?_⟩) ?_ ?_
                 rotate_left
                 ·intro w'
                  go_simp
                  with_reducible rfl
                 rotate_left
                 ·simp only [Act.put, sA, sB, sC, i64_w, i32_w]
                  rfl
                 refine take_ (i := 30) (N := some 142) (v := ?_) (a' := ?_) (bv 35 2147483647) rfl rfl (take_ofW HT_.out HW_.out (by kernel_rfl)) (fun _ _ _ h => h) (Or.inl ⟨by rfl, ?_⟩) hHeld ?_ ?_
                 rotate_left
                 ·rintro w' ⟨s0, s1, s2, s3, s4, s5, s6, s7, s8, s9, av, aw, ax, ay, az, aA, aB, aC, a6, a7, a8, a9, ba, bb⟩
                  go_simp
                  with_reducible rfl
                 rotate_left
                 ·simp only [Act.put, sA, sB, sC, i64_w, i32_w]
                  rfl
                 refine pure_ (i := 31) (N := some 143) (v := ?_) (a' := ?_) (bv 35 4294967295) rfl rfl (any_of HT_.out (by kernel_rfl)) (fun _ _ _ h => h) (Or.inl ⟨by rfl, ?_⟩) ?_ ?_
                 rotate_left
                 ·intro w'
                  go_simp
                  with_reducible rfl
                 rotate_left
                 ·simp only [Act.put, sA, sB, sC, i64_w, i32_w]
                  rfl
                 refine pure_ (i := 32) (N := some 144) (v := ?_) (a' := ?_) (bv 35 8589934591) rfl rfl (any_of HT_.out (by kernel_rfl)) (fun _ _ _ h => h) (Or.inl ⟨by rfl, ?_⟩) ?_ ?_
                 rotate_left
                 ·intro w'
                  go_simp
                  with_reducible rfl
                 rotate_left
                 ·simp only [Act.put, sA, sB, sC, i64_w, i32_w]
                  rfl
                 refine pure_ (i := 33) (N := some 145) (v := ?_) (a' := ?_) (bv 35 17179869183) rfl rfl (any_of HT_.out (by kernel_rfl)) (fun _ _ _ h => h) (Or.inl ⟨by rfl, ?_⟩) ?_ ?_
                 rotate_left
                 ·intro w'
                  go_simp
                  with_reducible rfl
                 rotate_left
                 ·simp only [Act.put, sA, sB, sC, i64_w, i32_w]
                  rfl
                 refine pure_ (i := 34) (N := some 146) (v := ?_) (a' := ?_) (bv 35 34359738367) rfl rfl (any_of HT_.out (by kernel_rfl)) (fun _ _ _ h => h) (Or.inl ⟨by rfl, ?_⟩) ?_ ?_
                 rotate_left
                 ·intro w'
                  go_simp
                  with_reducible rfl
                 rotate_left
                 ·simp only [Act.put, sA, sB, sC, i64_w, i32_w]
                  rfl
                 refine done_ (done_of HT_.out (by kernel_rfl)) ?_
                 try go_wp2
                 go_roundg k1
                 case measure => have := b2.out; omega
                 case rel => exact ⟨(wrap64 (a + 1)), (by first | rfl | (simp; done) | (simp [*]; done)), H', ⟨by have := b2.out; omega⟩, ⟨by (with_reducible repeat apply pV); exact HO_643002.out⟩, ⟨by (with_reducible repeat apply pK); exact b.out⟩, ⟨by (with_reducible repeat apply pK); exact c.out⟩, ⟨bl_⟩⟩
                ·rw [if_neg cz] at H
                 exact absurd H (by simp)
              ·replace c7 := Bool.eq_false_iff.mpr c7
               subst c7
               have H1 : (none) = some r := by rw [if_neg (show ¬ (false = true) by decide)] at H; exact H
               clear H
               have H := H1
               clear H1
               exact absurd H (by simp)
             ·rw [if_neg cy] at H
              exact absurd H (by simp)
            ·rw [if_neg cc] at H
             have c5 : (!(((rd_T35 g a).f0) == ((rd_T35 d a).f0)) || ((!(((rd_T35 g a).f1.f0) == ((rd_T35 d a).f1.f0)) || (!(((rd_T35 g a).f1.f1) == ((rd_T35 d a).f1.f1)) || (!(((rd_T35 g a).f1.f2) == ((rd_T35 d a).f1.f2)) || (!(((rd_T35 g a).f1.f3) == ((rd_T35 d a).f1.f3)))))) || (!(((rd_T35 g a).f2) == ((rd_T35 d a).f2))))) = false := by simpa using cc
             clear cc
             have H' := Z H
             clear H
             have my := ab.out
             have mJ := ar.out
             obtain ⟨iI, iJ, iK, iL, iM, iN, ky, kz, kA, kB, kC, kD⟩ := cells6 b.out
             try go_wp2
             have o := Z (Kd.V_drew HO_643002.out)
             have q := Z (blk_drew b.out)
             have B := Z (blk_drew c.out)
             have D := Z (below_drew1 HB.out)
             clear HO_643002
             clear b
             clear c
             clear HB
             have HO_643002 := o
             have b := q
             have c := B
             have HB := D
             clear o q B D
             have bo : 0 ≤ (a : Int) := od_
             have bq : a < (g.length : Int) := od_
             obtain ⟨R, b7, aO, aP, aQ, aR, aS, aT⟩ := at_T35 (Kd.V_reads' HO_643002.out).2.2 a bo bq
             cases b7
             replace bo := eq_true bo
             replace bq := eq_true bq
             have bp : 0 ≤ (a : Int) := od_
             have br : a < (d.length : Int) := od_
             obtain ⟨Q, b8, ac, ad, ae, af, ag, ah⟩ := at_T35 ap.out a bp br
             have an := ah
             have am := ag
             have al := af
             have ak := ae
             have aj := ad
             have ai := ac
             cases b8
             replace ac := (HB.out.cell (bk_ w _ ac)).trans ac
             replace ad := (HB.out.cell (bk_ w _ ad)).trans ad
             replace ae := (HB.out.cell (bk_ w _ ae)).trans ae
             replace af := (HB.out.cell (bk_ w _ af)).trans af
             replace ag := (HB.out.cell (bk_ w _ ag)).trans ag
             replace ah := (HB.out.cell (bk_ w _ ah)).trans ah
             replace bp := eq_true bp
             replace br := eq_true br
             refine start_ (n := 35) (S := fun w' => w'.cell? ⟨s, 0, none⟩ = some (.int .i64 L) ∧ w'.cell? ⟨s, 1, none⟩ = some (.int .i64 M) ∧ w'.cell? ⟨s, 2, none⟩ = some (.slice (some R) g.length bc) ∧ w'.cell? ⟨s, 3, none⟩ = some (.int .i64 O) ∧ w'.cell? ⟨s, 4, none⟩ = some (.bool J) ∧ w'.cell? ⟨s, 5, none⟩ = some (.bool I) ∧ w'.cell? ⟨x, 0, none⟩ = some (.int .i64 y) ∧ w'.cell? ⟨x, 1, none⟩ = some (.int .i64 z) ∧ w'.cell? ⟨x, 2, none⟩ = some (.slice (some Q) d.length aa) ∧ w'.cell? ⟨x, 3, none⟩ = some (.int .i64 m) ∧ w'.cell? ⟨x, 4, none⟩ = some (.bool j) ∧ w'.cell? ⟨x, 5, none⟩ = some (.bool A) ∧ w'.cell? (R.add ((a).toNat * 6)) = some (.bool ((rd_T35 g a).f0)) ∧ w'.cell? ⟨(R.add ((a).toNat * 6)).block, (R.add ((a).toNat * 6)).off + 1, none⟩ = some (.bool ((rd_T35 g a).f1.f0)) ∧ w'.cell? ⟨(R.add ((a).toNat * 6)).block, (R.add ((a).toNat * 6)).off + 2, none⟩ = some (.bool ((rd_T35 g a).f1.f1)) ∧ w'.cell? ⟨(R.add ((a).toNat * 6)).block, (R.add ((a).toNat * 6)).off + 3, none⟩ = some (.int .i64 ((rd_T35 g a).f1.f2)) ∧ w'.cell? ⟨(R.add ((a).toNat * 6)).block, (R.add ((a).toNat * 6)).off + 4, none⟩ = some (.bool ((rd_T35 g a).f1.f3)) ∧ w'.cell? ⟨(R.add ((a).toNat * 6)).block, (R.add ((a).toNat * 6)).off + 5, none⟩ = some (.int .u8 ((rd_T35 g a).f2)) ∧ w'.cell? (Q.add ((a).toNat * 6)) = some (.bool ((rd_T35 d a).f0)) ∧ w'.cell? ⟨(Q.add ((a).toNat * 6)).block, (Q.add ((a).toNat * 6)).off + 1, none⟩ = some (.bool ((rd_T35 d a).f1.f0)) ∧ w'.cell? ⟨(Q.add ((a).toNat * 6)).block, (Q.add ((a).toNat * 6)).off + 2, none⟩ = some (.bool ((rd_T35 d a).f1.f1)) ∧ w'.cell? ⟨(Q.add ((a).toNat * 6)).block, (Q.add ((a).toNat * 6)).off + 3, none⟩ = some (.int .i64 ((rd_T35 d a).f1.f2)) ∧ w'.cell? ⟨(Q.add ((a).toNat * 6)).block, (Q.add ((a).toNat * 6)).off + 4, none⟩ = some (.bool ((rd_T35 d a).f1.f3)) ∧ w'.cell? ⟨(Q.add ((a).toNat * 6)).block, (Q.add ((a).toNat * 6)).off + 5, none⟩ = some (.int .u8 ((rd_T35 d a).f2))) (ds := []) (bv 35 0) (by kernel_rfl) rfl rfl ⟨(blk_cell c.out 0).trans rfl, (blk_cell c.out 1).trans rfl, (blk_cell c.out 2).trans rfl, (blk_cell c.out 3).trans rfl, (blk_cell c.out 4).trans rfl, (blk_cell c.out 5).trans rfl, (blk_cell b.out 0).trans rfl, (blk_cell b.out 1).trans rfl, (blk_cell b.out 2).trans rfl, (blk_cell b.out 3).trans rfl, (blk_cell b.out 4).trans rfl, (blk_cell b.out 5).trans rfl, aO, aP, aQ, aR, aS, aT, ((HB.out.cell (bk_ w _ ai)).trans ai), ((HB.out.cell (bk_ w _ aj)).trans aj), ((HB.out.cell (bk_ w _ ak)).trans ak), ((HB.out.cell (bk_ w _ al)).trans al), ((HB.out.cell (bk_ w _ am)).trans am), ((HB.out.cell (bk_ w _ an)).trans an)⟩ (fun hHeld => ?_); refine with_tabW shutterlaw14_EditGuards.tab21 shutterlaw14_EditGuards.bits21 (fun HT_ HW_ => ?_)
             generalize wr.drew = nq at HO_643002 b c HB aO aP aQ aR aS aT ac ad ae af ag ah hHeld ⊢
             refine pure_ (i := 0) (N := some 112) (v := ?_) (a' := ?_) (bv 35 1) rfl rfl (any_of HT_.out (by kernel_rfl)) (fun _ _ _ h => h) (Or.inl ⟨by rfl, ?_⟩) ?_ ?_
             rotate_left
             ·intro w'
              go_simp
              with_reducible rfl
             rotate_left
             ·simp only [Act.put, sA, sB, sC, i64_w, i32_w]
              rfl
             refine pure_ (i := 2) (N := some 114) (v := ?_) (a' := ?_) (bv 35 5) rfl rfl (any_of HT_.out (by kernel_rfl)) (fun _ _ _ h => h) (Or.inl ⟨by rfl, ?_⟩) ?_ ?_
             rotate_left
             ·intro w'
              go_simp
              with_reducible rfl
             rotate_left
             ·simp only [Act.put, sA, sB, sC, i64_w, i32_w]
              rfl
             refine pure_ (i := 5) (N := some 117) (v := ?_) (a' := ?_) (bv 35 37) rfl rfl (any_of HT_.out (by kernel_rfl)) (fun _ _ _ h => h) (Or.inl ⟨by rfl, ?_⟩) ?_ ?_
             rotate_left
             ·intro w'
              go_simp
              with_reducible rfl
             rotate_left
             ·simp only [Act.put, sA, sB, sC, i64_w, i32_w]
              rfl
             refine pure_ (i := 7) (N := some 119) (v := ?_) (a' := ?_) (bv 35 165) rfl rfl (any_of HT_.out (by kernel_rfl)) (fun _ _ _ h => h) (Or.inl ⟨by rfl, ?_⟩) ?_ ?_
             rotate_left
             ·intro w'
              go_simp
              with_reducible rfl
             rotate_left
             ·simp only [Act.put, sA, sB, sC, i64_w, i32_w]
              rfl
             refine take_ (i := 1) (N := some 113) (v := ?_) (a' := ?_) (bv 35 167) rfl rfl (take_ofW HT_.out HW_.out (by kernel_rfl)) (fun _ _ _ h => h) (Or.inl ⟨by rfl, ?_⟩) hHeld ?_ ?_
             rotate_left
             ·rintro w' ⟨s0, s1, s2, s3, s4, s5, s6, s7, s8, s9, av, aw, ax, ay, az, aA, aB, aC, a6, a7, a8, a9, ba, bb⟩
              go_simp
              with_reducible rfl
             rotate_left
             ·simp only [Act.put, sA, sB, sC, i64_w, i32_w]
              rfl
             refine pure_ (i := 3) (N := some 115) (v := ?_) (a' := ?_) (bv 35 175) rfl rfl (any_of HT_.out (by kernel_rfl)) (fun _ _ _ h => h) (Or.inl ⟨by rfl, ?_⟩) ?_ ?_
             rotate_left
             ·intro w'
              go_simp
              with_reducible rfl
             rotate_left
             ·simp only [Act.put, sA, sB, sC, i64_w, i32_w]
              rfl
             refine take_ (i := 4) (N := some 116) (v := ?_) (a' := ?_) (bv 35 191) rfl rfl (take_ofW HT_.out HW_.out (by kernel_rfl)) (fun _ _ _ h => h) (Or.inl ⟨by rfl, ?_⟩) hHeld ?_ ?_
             rotate_left
             ·rintro w' ⟨s0, s1, s2, s3, s4, s5, s6, s7, s8, s9, av, aw, ax, ay, az, aA, aB, aC, a6, a7, a8, a9, ba, bb⟩
              go_simp
              with_reducible rfl
             rotate_left
             ·simp only [Act.put, sA, sB, sC, i64_w, i32_w]
              rfl
             refine take_ (i := 6) (N := some 118) (v := ?_) (a' := ?_) (bv 35 255) rfl rfl (take_ofW HT_.out HW_.out (by kernel_rfl)) (fun _ _ _ h => h) (Or.inl ⟨by rfl, ?_⟩) hHeld ?_ ?_
             rotate_left
             ·rintro w' ⟨s0, s1, s2, s3, s4, s5, s6, s7, s8, s9, av, aw, ax, ay, az, aA, aB, aC, a6, a7, a8, a9, ba, bb⟩
              go_simp
              with_reducible rfl
             rotate_left
             ·simp only [Act.put, sA, sB, sC, i64_w, i32_w]
              rfl
             refine pure_ (i := 8) (N := some 120) (v := ?_) (a' := ?_) (bv 35 511) rfl rfl (any_of HT_.out (by kernel_rfl)) (fun _ _ _ h => h) (Or.inl ⟨by rfl, ?_⟩) ?_ ?_
             rotate_left
             ·intro w'
              go_simp
              with_reducible rfl
             rotate_left
             ·simp only [Act.put, sA, sB, sC, i64_w, i32_w]
              rfl
             refine take_ (i := 9) (N := some 121) (v := ?_) (a' := ?_) (bv 35 1023) rfl rfl (take_ofW HT_.out HW_.out (by kernel_rfl)) (fun _ _ _ h => h) (Or.inl ⟨by rfl, ?_⟩) hHeld ?_ ?_
             rotate_left
             ·rintro w' ⟨s0, s1, s2, s3, s4, s5, s6, s7, s8, s9, av, aw, ax, ay, az, aA, aB, aC, a6, a7, a8, a9, ba, bb⟩
              go_simp
              with_reducible rfl
             rotate_left
             ·simp only [Act.put, sA, sB, sC, i64_w, i32_w]
              rfl
             refine pure_ (i := 10) (N := some 122) (v := ?_) (a' := ?_) (bv 35 2047) rfl rfl (any_of HT_.out (by kernel_rfl)) (fun _ _ _ h => h) (Or.inl ⟨by rfl, ?_⟩) ?_ ?_
             rotate_left
             ·intro w'
              go_simp
              with_reducible rfl
             rotate_left
             ·simp only [Act.put, sA, sB, sC, i64_w, i32_w]
              rfl
             refine pure_ (i := 11) (N := some 123) (v := ?_) (a' := ?_) (bv 35 4095) rfl rfl (any_of HT_.out (by kernel_rfl)) (fun _ _ _ h => h) (Or.inl ⟨by rfl, ?_⟩) ?_ ?_
             rotate_left
             ·intro w'
              go_simp
              with_reducible rfl
             rotate_left
             ·simp only [Act.put, sA, sB, sC, i64_w, i32_w]
              rfl
             refine pure_ (i := 12) (N := some 124) (v := undef) (a' := ?_) (bv 35 8191) rfl rfl (any_of HT_.out (by kernel_rfl)) (fun _ _ _ h => h) (Or.inr ⟨by rfl, rfl⟩) ?_ ?_
             rotate_left
             ·simp only [Act.put, sA, sB, sC, i64_w, i32_w]
              rfl
             refine pure_ (i := 13) (N := some 125) (v := undef) (a' := ?_) (bv 35 16383) rfl rfl (any_of HT_.out (by kernel_rfl)) (fun _ _ _ h => h) (Or.inr ⟨by rfl, rfl⟩) ?_ ?_
             rotate_left
             ·simp only [Act.put, sA, sB, sC, i64_w, i32_w]
              rfl
             refine pure_ (i := 14) (N := some 126) (v := undef) (a' := ?_) (bv 35 32767) rfl rfl (any_of HT_.out (by kernel_rfl)) (fun _ _ _ h => h) (Or.inr ⟨by rfl, rfl⟩) ?_ ?_
             rotate_left
             ·simp only [Act.put, sA, sB, sC, i64_w, i32_w]
              rfl
             refine pure_ (i := 15) (N := some 127) (v := undef) (a' := ?_) (bv 35 65535) rfl rfl (any_of HT_.out (by kernel_rfl)) (fun _ _ _ h => h) (Or.inr ⟨by rfl, rfl⟩) ?_ ?_
             rotate_left
             ·simp only [Act.put, sA, sB, sC, i64_w, i32_w]
              rfl
             refine pure_ (i := 16) (N := some 128) (v := undef) (a' := ?_) (bv 35 131071) rfl rfl (any_of HT_.out (by kernel_rfl)) (fun _ _ _ h => h) (Or.inr ⟨by rfl, rfl⟩) ?_ ?_
             rotate_left
             ·simp only [Act.put, sA, sB, sC, i64_w, i32_w]
              rfl
             refine pure_ (i := 17) (N := some 129) (v := undef) (a' := ?_) (bv 35 262143) rfl rfl (any_of HT_.out (by kernel_rfl)) (fun _ _ _ h => h) (Or.inr ⟨by rfl, rfl⟩) ?_ ?_
             rotate_left
             ·simp only [Act.put, sA, sB, sC, i64_w, i32_w]
              rfl
             refine pure_ (i := 18) (N := some 130) (v := undef) (a' := ?_) (bv 35 524287) rfl rfl (any_of HT_.out (by kernel_rfl)) (fun _ _ _ h => h) (Or.inr ⟨by rfl, rfl⟩) ?_ ?_
             rotate_left
             ·simp only [Act.put, sA, sB, sC, i64_w, i32_w]
              rfl
             refine pure_ (i := 19) (N := some 131) (v := undef) (a' := ?_) (bv 35 1048575) rfl rfl (any_of HT_.out (by kernel_rfl)) (fun _ _ _ h => h) (Or.inr ⟨by rfl, rfl⟩) ?_ ?_
             rotate_left
             ·simp only [Act.put, sA, sB, sC, i64_w, i32_w]
              rfl
             refine pure_ (i := 20) (N := some 132) (v := undef) (a' := ?_) (bv 35 2097151) rfl rfl (any_of HT_.out (by kernel_rfl)) (fun _ _ _ h => h) (Or.inr ⟨by rfl, rfl⟩) ?_ ?_
             rotate_left
             ·simp only [Act.put, sA, sB, sC, i64_w, i32_w]
              rfl
             refine pure_ (i := 21) (N := some 133) (v := undef) (a' := ?_) (bv 35 4194303) rfl rfl (any_of HT_.out (by kernel_rfl)) (fun _ _ _ h => h) (Or.inr ⟨by rfl, rfl⟩) ?_ ?_
             rotate_left
             ·simp only [Act.put, sA, sB, sC, i64_w, i32_w]
              rfl
             refine pure_ (i := 22) (N := some 134) (v := undef) (a' := ?_) (bv 35 8388607) rfl rfl (any_of HT_.out (by kernel_rfl)) (fun _ _ _ h => h) (Or.inr ⟨by rfl, rfl⟩) ?_ ?_
             rotate_left
             ·simp only [Act.put, sA, sB, sC, i64_w, i32_w]
              rfl
             refine pure_ (i := 23) (N := some 135) (v := undef) (a' := ?_) (bv 35 16777215) rfl rfl (any_of HT_.out (by kernel_rfl)) (fun _ _ _ h => h) (Or.inr ⟨by rfl, rfl⟩) ?_ ?_
             rotate_left
             ·simp only [Act.put, sA, sB, sC, i64_w, i32_w]
              rfl
             refine pure_ (i := 24) (N := some 136) (v := undef) (a' := ?_) (bv 35 33554431) rfl rfl (any_of HT_.out (by kernel_rfl)) (fun _ _ _ h => h) (Or.inr ⟨by rfl, rfl⟩) ?_ ?_
             rotate_left
             ·simp only [Act.put, sA, sB, sC, i64_w, i32_w]
              rfl
             refine pure_ (i := 25) (N := some 137) (v := undef) (a' := ?_) (bv 35 67108863) rfl rfl (any_of HT_.out (by kernel_rfl)) (fun _ _ _ h => h) (Or.inr ⟨by rfl, rfl⟩) ?_ ?_
             rotate_left
             ·simp only [Act.put, sA, sB, sC, i64_w, i32_w]
              rfl
             refine pure_ (i := 26) (N := some 138) (v := undef) (a' := ?_) (bv 35 134217727) rfl rfl (any_of HT_.out (by kernel_rfl)) (fun _ _ _ h => h) (Or.inr ⟨by rfl, rfl⟩) ?_ ?_
             rotate_left
             ·simp only [Act.put, sA, sB, sC, i64_w, i32_w]
              rfl
             refine pure_ (i := 27) (N := some 139) (v := undef) (a' := ?_) (bv 35 268435455) rfl rfl (any_of HT_.out (by kernel_rfl)) (fun _ _ _ h => h) (Or.inr ⟨by rfl, rfl⟩) ?_ ?_
             rotate_left
             ·simp only [Act.put, sA, sB, sC, i64_w, i32_w]
              rfl
             refine pure_ (i := 28) (N := some 140) (v := undef) (a' := ?_) (bv 35 536870911) rfl rfl (any_of HT_.out (by kernel_rfl)) (fun _ _ _ h => h) (Or.inr ⟨by rfl, rfl⟩) ?_ ?_
             rotate_left
             ·simp only [Act.put, sA, sB, sC, i64_w, i32_w]
              rfl
             refine pure_ (i := 29) (N := some 141) (v := undef) (a' := ?_) (bv 35 1073741823) rfl rfl (any_of HT_.out (by kernel_rfl)) (fun _ _ _ h => h) (Or.inr ⟨by rfl, rfl⟩) ?_ ?_
             rotate_left
             ·simp only [Act.put, sA, sB, sC, i64_w, i32_w]
              rfl
             refine pure_ (i := 30) (N := some 142) (v := undef) (a' := ?_) (bv 35 2147483647) rfl rfl (any_of HT_.out (by kernel_rfl)) (fun _ _ _ h => h) (Or.inr ⟨by rfl, rfl⟩) ?_ ?_
             rotate_left
             ·simp only [Act.put, sA, sB, sC, i64_w, i32_w]
              rfl
             refine pure_ (i := 31) (N := some 143) (v := undef) (a' := ?_) (bv 35 4294967295) rfl rfl (any_of HT_.out (by kernel_rfl)) (fun _ _ _ h => h) (Or.inr ⟨by rfl, rfl⟩) ?_ ?_
             rotate_left
             ·simp only [Act.put, sA, sB, sC, i64_w, i32_w]
              rfl
             refine pure_ (i := 32) (N := some 144) (v := undef) (a' := ?_) (bv 35 8589934591) rfl rfl (any_of HT_.out (by kernel_rfl)) (fun _ _ _ h => h) (Or.inr ⟨by rfl, rfl⟩) ?_ ?_
             rotate_left
             ·simp only [Act.put, sA, sB, sC, i64_w, i32_w]
              rfl
             refine pure_ (i := 33) (N := some 145) (v := undef) (a' := ?_) (bv 35 17179869183) rfl rfl (any_of HT_.out (by kernel_rfl)) (fun _ _ _ h => h) (Or.inr ⟨by rfl, rfl⟩) ?_ ?_
             rotate_left
             ·simp only [Act.put, sA, sB, sC, i64_w, i32_w]
              rfl
             refine pure_ (i := 34) (N := some 146) (v := ?_) (a' := ?_) (bv 35 34359738367) rfl rfl (any_of HT_.out (by kernel_rfl)) (fun _ _ _ h => h) (Or.inl ⟨by rfl, ?_⟩) ?_ ?_
             rotate_left
             ·intro w'
              go_simp
              with_reducible rfl
             rotate_left
             ·simp only [Act.put, sA, sB, sC, i64_w, i32_w]
              rfl
             refine done_ (done_of HT_.out (by kernel_rfl)) ?_
             try go_wp2
             any_goals (first | (exfalso; rename_i hq_; exact Bool.noConfusion ((show (!(((rd_T35 g a).f0) == ((rd_T35 d a).f0)) || ((!(((rd_T35 g a).f1.f0) == ((rd_T35 d a).f1.f0)) || (!(((rd_T35 g a).f1.f1) == ((rd_T35 d a).f1.f1)) || (!(((rd_T35 g a).f1.f2) == ((rd_T35 d a).f1.f2)) || (!(((rd_T35 g a).f1.f3) == ((rd_T35 d a).f1.f3)))))) || (!(((rd_T35 g a).f2) == ((rd_T35 d a).f2))))) = true by simpa using hq_).symm.trans c5)) | skip)
             go_roundg k1
             case measure => have := b2.out; omega
             case rel => exact ⟨(wrap64 (a + 1)), (by first | rfl | (simp; done) | (simp [*]; done)), H', ⟨by have := b2.out; omega⟩, ⟨by (with_reducible repeat apply pV); exact HO_643002.out⟩, ⟨by (with_reducible repeat apply pK); exact b.out⟩, ⟨by (with_reducible repeat apply pK); exact c.out⟩, ⟨bl_⟩⟩
           ·rw [if_neg c0] at H
            exact absurd H (by simp)
          ·rw [if_neg cZ] at H
           exact absurd H (by simp)
        ·rw [if_neg cb] at H
         have eL : decide (a < (d.length : Int)) = false := decide_eq_false cb
         clear cb
         by_cases da : 0 ≤ m
         ·rw [if_pos da] at H
          have mj : decide (0 ≤ m) = true := decide_eq_true da
          clear da
          by_cases db : m < (g.length : Int)
          ·rw [if_pos db] at H
           have mk : decide (m < (g.length : Int)) = true := decide_eq_true db
           clear db
           by_cases cA : ((rd_T35 g m).f2) = a1
           ·rw [if_pos cA] at H
            have ml : (((rd_T35 g m).f2) == a1) = true := beq_iff_eq.mpr cA
            have mm : (((rd_T35 g m).f2) != a1) = false := bne_eq_false_iff_eq.mpr cA
            clear cA
            by_cases cd : (I == A) = true
            ·rw [if_pos cd] at H
             have mn : (I == A) = true := cd
             (try (have mo : decide (I = A) = true := by simpa using cd))
             (try (have mq : (I == A) = true := by simpa using cd))
             clear cd
             obtain rfl := Option.some.inj H
             have mz := ab.out
             have mK := ar.out
             obtain ⟨iO, iP, iQ, iR, iS, iT, kE, kF, kG, kH, kI, kJ⟩ := cells6 b.out
             obtain ⟨iU, iV, iW, iX, iY, iZ, kK, kL, kM, kN, kO, kP⟩ := cells6 c.out
             have cE : 0 ≤ (m : Int) := od_
             have cK : m < (g.length : Int) := od_
             obtain ⟨ma, e6, lG, lH, lI, lJ, lK, lL⟩ := at_T35 (Kd.V_reads' HO_643002.out).2.2 m cE cK
             cases e6
             replace cE := eq_true cE
             replace cK := eq_true cK
             go_wp2
             go_ret
             exact ⟨by first | rfl | (simp [errW_none, errW_some] <;> rfl) | (simp [*, errW_none, errW_some] <;> rfl), bl_⟩
            ·rw [if_neg cd] at H
             exact absurd H (by simp)
           ·rw [if_neg cA] at H
            exact absurd H (by simp)
          ·rw [if_neg db] at H
           exact absurd H (by simp)
         ·rw [if_neg da] at H
          exact absurd H (by simp)
     ·have H1 : ((shutterref10_Same.f k L M g O j I y z d m j A).bind fun aD => (if aD = true then (if (J == j) = true then (some true) else ((api_Where.f (some bG) aG).bind fun aq => (some (aq == m)))) else (none))) = some r := by rw [if_neg (show ¬ (some bG).isNone = true by simp)] at H; exact H
      clear H
      have H := H1
      clear H1
      try simp only [errW_none, errW_some]
      replace H := Option.bind_eq_some_iff.mp H
      obtain ⟨aD, ex, H⟩ := H
      replace H : (if aD = true then (if (J == j) = true then (some true) else ((api_Where.f (some bG) aG).bind fun aq => (some (aq == m)))) else (none)) = some r := H
      have eZ := Z ex
      clear ex
      by_cases dc : aD = true
      ·subst dc
       have H1 : (if (J == j) = true then (some true) else ((api_Where.f (some bG) aG).bind fun aq => (some (aq == m)))) = some r := by rw [if_pos rfl] at H; exact H
       clear H
       have H := H1
       clear H1
       by_cases bM : (J == j) = true
       ·rw [if_pos bM] at H
        have eP : (J == j) = true := bM
        (try (have eQ : decide (J = j) = true := by simpa using bM))
        (try (have eR : (J == j) = true := by simpa using bM))
        clear bM
        obtain rfl := Option.some.inj H
        go_enter Tryd.func11, Tryd.ntmps11
        try go_wp2_with (first | ((with_reducible refine gate_dst (N := 2) rfl ?_); (try (refine gate_guard (by rfl) ?_; dsimp only)); refine box_event ?hg (N := 2) ?hd (cs := #[.int .i64 y, .int .i64 z, .slice au d.length aa, .int .i64 m, .bool j, .bool A]) (t := 24) ?hr ?_; (case hd => rfl); (case hg => rfl); (case hr => first | (go_simp; done) | (go_simp; rfl)); intro x hg nr hbox hb; have o := Z (below_step bl_ hb); have q := Z (hbox); have B := Z ((le_new hg (below_size bl_) : w.heap.size ≤ x)); have D := Z ((le_new hg (below_size bl_) : w.heap.size ≤ x)); clear HB; have HB := o; have b := q; have bn := B; have cq := D; clear o q B D; clear hb hbox hg) | ((with_reducible refine gate_callee (f := 30) rfl ?_); refine goesL_ (some 11) rfl rfl Tryd.func30 (by kernel_rfl) rfl #[] rfl ag_ ?_; (with_reducible refine (shutterlaw14_awake.calls k  true _ ?sideG A3.out).mono ?_); (case sideG => exact laidG_below HG.out bl_ rfl); rintro e ns ⟨rfl, hb⟩; refine ⟨_, rfl, ?_⟩; have o := Z (kb b.out hb); have q := Z (below_step bl_ hb); clear b HB; have b := o; have HB := q; clear o q; (try clear hb); (try clear aL); (try clear hk); (try clear hi); obtain ⟨ja, jb, jc, jd, je, jf, kQ, kR, kS, kT, kU, kV⟩ := cells6 b.out) | (go_at_call 18; (with_reducible refine (shutterref10_Few.calls k y z _ _ d m j A true _ ?side1 ?side2 A5.out).mono ?_); (case side1 => repeat (first | exact (Kd.C_below ap.out HB.out) | (with_reducible apply pC))); (case side2 => exact aH.out); rintro e nt ⟨rfl, hb⟩; have o := Z (kb b.out hb); have q := Z (below_step bl_ hb); clear b HB; have b := o; have HB := q; clear o q; (try clear hb); (try clear aL); (try clear hk); (try clear hi); obtain ⟨jg, jh, ji, jj, jk, jl, kW, kX, kY, kZ, la, lb⟩ := cells6 b.out) | ((with_reducible refine gate_callee (f := 31) rfl ?_); refine goesL_ (some 22) rfl rfl Tryd.func31 (by kernel_rfl) rfl #[.agg #[.int .i64 y, .int .i64 z, .slice au d.length aa, .int .i64 m, .bool j, .bool A], .int .u8 a1] rfl ag_ ?_; (with_reducible refine (edit_Type.calls k y z (fun k_ => k_ < w.heap.size) _ _ d m j A a1 L M g O J I (some bG) aG _ ?side1 A7.out).mono ?_); (case side1 => exact Kd.V_mk aH.out (Kd.F_below (Kd.C_F k35_heap ap.out) bl_)); rintro e nu ⟨eA, bH, rfl, b3, b4, hb⟩; refine ⟨_, rfl, ?_⟩; have o := Z (Kd.V_lower (Kd.V_mono (ok' := fun k_ => k_ ≠ x) b3 (fun k_ hk_ => Or.elim hk_ (fun hs_ => fun e_ => Nat.not_le.2 hs_ (by rw [e_]; exact bn.out)) (fun hn_ => (fb b.out k_ hn_)))) (below_size bl_)); have q := Z (Kd.V_lower (Kd.V_mono (ok' := fun k_ => k_ ≠ x) b4 (fun k_ hk_ => Or.elim hk_ (fun hs_ => fun e_ => Nat.not_le.2 hs_ (by rw [e_]; exact bn.out)) (fun hn_ => (fb b.out k_ hn_)))) (below_size bl_)); have B := Z (kb b.out hb); have D := Z (below_step bl_ hb); clear b HB; have u := o; have E := q; have b := B; have HB := D; clear o q B D; (try clear hb); (try clear aL); (try clear hk); (try clear hi); (try clear b3); (try clear b4); (try simp only [errW_none, errW_some])) | ((with_reducible refine gate_dst (N := 5) rfl ?_); (try (refine gate_guard (by rfl) ?_; dsimp only)); refine box_event ?hg (N := 5) ?hd (cs := #[.int .i64 0, .int .i64 0, .slice none 0 0, .int .i64 0, .bool false, .bool false]) (t := 24) ?hr ?_; (case hd => rfl); (case hg => rfl); (case hr => first | (go_simp; done) | (go_simp; rfl)); intro s hg l6 hbox hb; have o := Z (ve u.out hg hb); have q := Z (ve E.out hg hb); have B := Z (kb b.out hb); have D := Z (below_step bl_ hb); have P := Z (hbox); have X := Z ((le_new hg (below_size bl_) : w.heap.size ≤ s)); have bk := Z ((le_new hg (below_size bl_) : w.heap.size ≤ s)); have bl := Z (nl b.out hg); have bm := Z (ng b.out hg); clear u E b HB; have u := o; have E := q; have b := B; have HB := D; have c := P; have cT := X; have cS := bk; have ab := bl; have ar := bm; clear o q B D P X bk bl bm; clear hb hbox hg; have mA := ar.out; have mL := ab.out; obtain ⟨jm, jn, jo, jp, jq, jr, lc, ld, le, lf, lg, lh⟩ := cells6 c.out; obtain ⟨aM, aN, fe⟩ := Kd.V_slice u.out; subst fe) | ((with_reducible refine gate_store (t := 24) (p := 5) rfl ?_); refine store_event (t := 24) (p := 5) (v := ?vo_w91) (w1 := ((((((l6.setCell ⟨s, 0, none⟩ (.int .i64 L)).setCell ⟨s, 1, none⟩ (.int .i64 M)).setCell ⟨s, 2, none⟩ (.slice aM g.length aN)).setCell ⟨s, 3, none⟩ (.int .i64 O)).setCell ⟨s, 4, none⟩ (.bool J)).setCell ⟨s, 5, none⟩ (.bool I))) ?hg ?ho ?hn ?hr ?_; (case ho => rfl); (case hg => rfl); (case hn => rfl); (case hr => first | (go_simp; done) | (go_simp; rfl)); intro cC hw; have o : Aside0 (Kd.V k35 35 cC w.heap.size (fun k_ => k_ ≠ x ∧ k_ ≠ s) (.slice aM g.length aN) g) := ⟨(by rw [hw]; exact (by (with_reducible repeat apply pV); exact V_off u.out (fun k_ hk => hk.2) off2_ (fun _ hk => ⟨hk.1, hk.2⟩)))⟩; have q : Aside0 (Kd.V k164 164 cC w.heap.size (fun k_ => k_ ≠ x ∧ k_ ≠ s) bH aG) := ⟨(by rw [hw]; exact (by (with_reducible repeat apply pV); exact V_off E.out (fun k_ hk => hk.2) off2_ (fun _ hk => ⟨hk.1, hk.2⟩)))⟩; have B : Aside0 (cC.heap[x]? = some (.cells #[.int .i64 y, .int .i64 z, .slice au d.length aa, .int .i64 m, .bool j, .bool A] 24 (0, 0))) := ⟨(by rw [hw]; exact (by (with_reducible repeat apply pK); exact blk_off b.out ab.out off2_))⟩; have D : Aside0 (cC.heap[s]? = some (.cells #[.int .i64 L, .int .i64 M, .slice aM g.length aN, .int .i64 O, .bool J, .bool I] 24 (0, 0))) := ⟨by rw [hw]; exact (put6 c.out)⟩; have P : Aside0 (Below w.heap.size w cC) := ⟨by rw [hw]; exact bl_⟩; clear hw u E b c HB; have u := o; have E := q; have b := B; have c := D; have HB := P; clear o q B D P; obtain ⟨js, jt, ju, jv, jw, jx, li, lj, lk, ll, lm, ln⟩ := cells6 c.out) | ((with_reducible refine gate_callee (f := 20) rfl ?_); refine goesL_ (some 26) rfl rfl Tryd.func20 (by kernel_rfl) rfl #[.agg #[.int .i64 L, .int .i64 M, .slice aM g.length aN, .int .i64 O, .bool J, .bool I]] rfl ag_ ?_; (with_reducible refine (shutterref10_Right.calls k L M _ _ g O J I true _ ?side1 ?side2 A8.out).mono ?_); (case side1 => repeat (first | exact (Kd.V_reads' u.out).2.2 | (with_reducible apply pC))); (case side2 => exact (Kd.V_reads' u.out).2.1); rintro e nv ⟨rfl, hb⟩; refine ⟨_, rfl, ?_⟩; have o := Z (vb u.out hb); have q := Z (vb E.out hb); have B := Z (kb b.out hb); have D := Z (kb c.out hb); have P := Z (below_step bl_ hb); clear u E b c HB; have u := o; have E := q; have b := B; have c := D; have HB := P; clear o q B D P; (try clear hb); (try clear aL); (try clear hk); (try clear hi); obtain ⟨jy, jz, jA, jB, jC, jD, lo, lp, lq, lr, ls, lt⟩ := cells6 c.out; obtain ⟨jE, jF, jG, jH, jI, jJ, lu, lv, lw, lx, ly, lz⟩ := cells6 b.out) | ((with_reducible refine gate_dst (N := 7) rfl ?_); (try (refine gate_guard (by rfl) ?_; dsimp only)); refine box_event ?hg (N := 7) ?hd (cs := #[.int .i64 0, .int .i64 0, .slice none 0 0, .int .i64 0, .bool false, .bool false]) (t := 24) ?hr ?_; (case hd => rfl); (case hg => rfl); (case hr => first | (go_simp; done) | (go_simp; rfl)); intro G hg l7 hbox hb; have o := Z (ve u.out hg hb); have q := Z (ve E.out hg hb); have B := Z (kb b.out hb); have D := Z (kb c.out hb); have P := Z (below_step bl_ hb); have X := Z (hbox); have bk := Z ((le_new hg (below_size bl_) : w.heap.size ≤ G)); have bl := Z ((le_new hg (below_size bl_) : w.heap.size ≤ G)); have bm := Z (nl b.out hg); have b5 := Z (ng b.out hg); have bN := Z (nl c.out hg); have b9 := Z (ng c.out hg); clear u E b c HB; have u := o; have E := q; have b := B; have c := D; have HB := P; have F := X; have eE := bk; have eD := bl; have aJ := bm; have bK := b5; have aK := bN; have bL := b9; clear o q B D P X bk bl bm b5 bN b9; clear hb hbox hg; have mB := bK.out; have mM := aJ.out; have mC := bL.out; have mN := aK.out; obtain ⟨jK, jL, jM, jN, jO, jP, lA, lB, lC, lD, lE, lF⟩ := cells6 F.out) | ((with_reducible refine gate_store (t := 24) (p := 7) rfl ?_); refine store_event (t := 24) (p := 7) (v := ?vo_w100) (w1 := ((((((l7.setCell ⟨G, 0, none⟩ (.int .i64 L)).setCell ⟨G, 1, none⟩ (.int .i64 M)).setCell ⟨G, 2, none⟩ (.slice aM g.length aN)).setCell ⟨G, 3, none⟩ (.int .i64 O)).setCell ⟨G, 4, none⟩ (.bool J)).setCell ⟨G, 5, none⟩ (.bool I))) ?hg ?ho ?hn ?hr ?_; (case ho => rfl); (case hg => rfl); (case hn => rfl); (case hr => first | (go_simp; done) | (go_simp; rfl)); intro bi hw; have o : Aside0 (Kd.V k35 35 bi w.heap.size (fun k_ => k_ ≠ x ∧ k_ ≠ s ∧ k_ ≠ G) (.slice aM g.length aN) g) := ⟨(by rw [hw]; exact (by (with_reducible repeat apply pV); exact V_off u.out (fun k_ hk => hk.2) off2_ (fun _ hk => ⟨hk.1.1, ⟨hk.1.2, hk.2⟩⟩)))⟩; have q : Aside0 (Kd.V k164 164 bi w.heap.size (fun k_ => k_ ≠ x ∧ k_ ≠ s ∧ k_ ≠ G) bH aG) := ⟨(by rw [hw]; exact (by (with_reducible repeat apply pV); exact V_off E.out (fun k_ hk => hk.2) off2_ (fun _ hk => ⟨hk.1.1, ⟨hk.1.2, hk.2⟩⟩)))⟩; have B : Aside0 (bi.heap[x]? = some (.cells #[.int .i64 y, .int .i64 z, .slice au d.length aa, .int .i64 m, .bool j, .bool A] 24 (0, 0))) := ⟨(by rw [hw]; exact (by (with_reducible repeat apply pK); exact blk_off b.out aJ.out off2_))⟩; have D : Aside0 (bi.heap[s]? = some (.cells #[.int .i64 L, .int .i64 M, .slice aM g.length aN, .int .i64 O, .bool J, .bool I] 24 (0, 0))) := ⟨(by rw [hw]; exact (by (with_reducible repeat apply pK); exact blk_off c.out aK.out off2_))⟩; have P : Aside0 (bi.heap[G]? = some (.cells #[.int .i64 L, .int .i64 M, .slice aM g.length aN, .int .i64 O, .bool J, .bool I] 24 (0, 0))) := ⟨by rw [hw]; exact (put6 F.out)⟩; have X : Aside0 (Below w.heap.size w bi) := ⟨by rw [hw]; exact bl_⟩; clear hw u E b c F HB; have u := o; have E := q; have b := B; have c := D; have F := P; have HB := X; clear o q B D P X; obtain ⟨ff, fg, fh, fi, fj, fk, gA, gB, gC, gD, gE, gF⟩ := cells6 b.out; obtain ⟨fl, fm, fn, fo, fp, fq, gG, gH, gI, gJ, gK, gL⟩ := cells6 F.out))
        have o : Aside0 (Kd.V k35 35 (bi.setCell ⟨G, 4, none⟩ (.bool j)) w.heap.size (fun k_ => k_ ≠ x ∧ k_ ≠ s ∧ k_ ≠ G) (.slice aM g.length aN) g) := ⟨by (with_reducible repeat apply pV); exact Kd.V_mono (Kd.V_far (p := ⟨G, 4, none⟩) (Kd.V_mono u.out (fun k_ hk => (⟨hk, hk.2.2⟩ : _ ∧ k_ ≠ G))) (fun _ hk => hk.2) (.bool j)) (fun _ hk => ⟨hk.1.1, ⟨hk.1.2.1, hk.1.2.2⟩⟩)⟩
        have q : Aside0 (Kd.V k164 164 (bi.setCell ⟨G, 4, none⟩ (.bool j)) w.heap.size (fun k_ => k_ ≠ x ∧ k_ ≠ s ∧ k_ ≠ G) bH aG) := ⟨by (with_reducible repeat apply pV); exact Kd.V_mono (Kd.V_far (p := ⟨G, 4, none⟩) (Kd.V_mono E.out (fun k_ hk => (⟨hk, hk.2.2⟩ : _ ∧ k_ ≠ G))) (fun _ hk => hk.2) (.bool j)) (fun _ hk => ⟨hk.1.1, ⟨hk.1.2.1, hk.1.2.2⟩⟩)⟩
        have B : Aside0 ((bi.setCell ⟨G, 4, none⟩ (.bool j)).heap[x]? = some (.cells #[.int .i64 y, .int .i64 z, .slice au d.length aa, .int .i64 m, .bool j, .bool A] 24 (0, 0))) := ⟨by (with_reducible repeat apply pK); exact blk_off b.out aJ.out off2_⟩
        have D : Aside0 ((bi.setCell ⟨G, 4, none⟩ (.bool j)).heap[s]? = some (.cells #[.int .i64 L, .int .i64 M, .slice aM g.length aN, .int .i64 O, .bool J, .bool I] 24 (0, 0))) := ⟨by (with_reducible repeat apply pK); exact blk_off c.out aK.out off2_⟩
        have P : Aside0 ((bi.setCell ⟨G, 4, none⟩ (.bool j)).heap[G]? = some (.cells #[.int .i64 L, .int .i64 M, .slice aM g.length aN, .int .i64 O, .bool j, .bool I] 24 (0, 0))) := ⟨by (with_reducible repeat apply pK); refine blk_put (cs := #[.int .i64 L, .int .i64 M, .slice aM g.length aN, .int .i64 O, .bool J, .bool I]) ?_ 4 _ rfl; (with_reducible repeat apply pK); exact F.out⟩
        have X : Aside0 (Below w.heap.size w (bi.setCell ⟨G, 4, none⟩ (.bool j))) := ⟨bl_⟩
        (try clear u)
        (try clear E)
        (try clear b)
        (try clear c)
        (try clear F)
        (try clear HB)
        generalize (bi.setCell ⟨G, 4, none⟩ (.bool j)) = hV at o q B D P X ⊢
        have u := o
        have E := q
        have b := B
        have c := D
        have F := P
        have HB := X
        clear o q B D P X
        have o := Z (Kd.V_drew u.out)
        have q := Z (Kd.V_drew E.out)
        have B := Z (blk_drew b.out)
        have D := Z (blk_drew c.out)
        have P := Z (blk_drew F.out)
        have X := Z (below_drew1 HB.out)
        clear u
        clear E
        clear b
        clear c
        clear F
        clear HB
        have u := o
        have E := q
        have b := B
        have c := D
        have F := P
        have HB := X
        clear o q B D P X
        refine start_ (n := 18) (S := fun w' => w'.cell? ⟨G, 0, none⟩ = some (.int .i64 L) ∧ w'.cell? ⟨G, 1, none⟩ = some (.int .i64 M) ∧ w'.cell? ⟨G, 2, none⟩ = some (.slice aM g.length aN) ∧ w'.cell? ⟨G, 3, none⟩ = some (.int .i64 O) ∧ w'.cell? ⟨G, 4, none⟩ = some (.bool j) ∧ w'.cell? ⟨G, 5, none⟩ = some (.bool I) ∧ w'.cell? ⟨x, 0, none⟩ = some (.int .i64 y) ∧ w'.cell? ⟨x, 1, none⟩ = some (.int .i64 z) ∧ w'.cell? ⟨x, 2, none⟩ = some (.slice au d.length aa) ∧ w'.cell? ⟨x, 3, none⟩ = some (.int .i64 m) ∧ w'.cell? ⟨x, 4, none⟩ = some (.bool j) ∧ w'.cell? ⟨x, 5, none⟩ = some (.bool A) ∧ w'.cell? ⟨s, 0, none⟩ = some (.int .i64 L) ∧ w'.cell? ⟨s, 1, none⟩ = some (.int .i64 M) ∧ w'.cell? ⟨s, 2, none⟩ = some (.slice aM g.length aN) ∧ w'.cell? ⟨s, 3, none⟩ = some (.int .i64 O) ∧ w'.cell? ⟨s, 4, none⟩ = some (.bool J) ∧ w'.cell? ⟨s, 5, none⟩ = some (.bool I)) (ds := []) (bv 18 0) (by kernel_rfl) rfl rfl ⟨(blk_cell F.out 0).trans rfl, (blk_cell F.out 1).trans rfl, (blk_cell F.out 2).trans rfl, (blk_cell F.out 3).trans rfl, (blk_cell F.out 4).trans rfl, (blk_cell F.out 5).trans rfl, (blk_cell b.out 0).trans rfl, (blk_cell b.out 1).trans rfl, (blk_cell b.out 2).trans rfl, (blk_cell b.out 3).trans rfl, (blk_cell b.out 4).trans rfl, (blk_cell b.out 5).trans rfl, (blk_cell c.out 0).trans rfl, (blk_cell c.out 1).trans rfl, (blk_cell c.out 2).trans rfl, (blk_cell c.out 3).trans rfl, (blk_cell c.out 4).trans rfl, (blk_cell c.out 5).trans rfl⟩ (fun hHeld => ?_); refine with_tabW shutterlaw14_EditGuards.tab9 shutterlaw14_EditGuards.bits9 (fun HT_ HW_ => ?_)
        generalize hV.drew = mT at u E b c F HB hHeld ⊢
        refine take_ (i := 0) (N := some 43) (v := ?_) (a' := ?_) (bv 18 1) rfl rfl (take_ofW HT_.out HW_.out (by kernel_rfl)) (fun _ _ _ h => h) (Or.inl ⟨by rfl, ?_⟩) hHeld ?_ ?_
        rotate_left
        ·rintro w' ⟨s0, s1, s2, s3, s4, s5, s6, s7, s8, s9, av, aw, ax, ay, az, aA, aB, aC⟩
         go_simp
         with_reducible rfl
        rotate_left
        ·simp only [Act.put, sA, sB, sC, i64_w, i32_w]
         rfl
        refine take_ (i := 1) (N := some 44) (v := ?_) (a' := ?_) (bv 18 3) rfl rfl (take_ofW HT_.out HW_.out (by kernel_rfl)) (fun _ _ _ h => h) (Or.inl ⟨by rfl, ?_⟩) hHeld ?_ ?_
        rotate_left
        ·rintro w' ⟨s0, s1, s2, s3, s4, s5, s6, s7, s8, s9, av, aw, ax, ay, az, aA, aB, aC⟩
         go_simp
         with_reducible rfl
        rotate_left
        ·simp only [Act.put, sA, sB, sC, i64_w, i32_w]
         rfl
        refine one_ (i := 2) (N := some 45) (bv 18 7) rfl rfl (one_of HT_.out (by kernel_rfl)) (by decide) (fun K hK => ?_)
        refine goes_ Tryd.func24 (by kernel_rfl) rfl #[.agg #[.int .i64 L, .int .i64 M, .slice aM g.length aN, .int .i64 O, .bool j, .bool I], .agg #[.int .i64 y, .int .i64 z, .slice au d.length aa, .int .i64 m, .bool j, .bool A]] (by rfl) rfl rfl ag_ ?_
        with_reducible refine (shutterref10_Same.calls k L M _ _ g O j I y z _ _ d m j A true _ ?side1 ?side2 ?side3 ?side4 eZ.out).mono ?_
        (case side1 => repeat (first | exact (Kd.V_reads' u.out).2.2 | (with_reducible apply pC)))
        (case side2 => exact (Kd.V_reads' u.out).2.1)
        (case side3 => repeat (first | exact (Kd.C_below ap.out HB.out) | (with_reducible apply pC)))
        (case side4 => exact aH.out)
        rintro e mU ⟨rfl, hb⟩
        refine ⟨_, rfl, ?_⟩
        have o := Z (vb u.out hb)
        have q := Z (vb E.out hb)
        have B := Z (kb b.out hb)
        have D := Z (kb c.out hb)
        have P := Z (kb F.out hb)
        have X := Z (below_step bl_ hb)
        clear u
        clear E
        clear b
        clear c
        clear F
        clear HB
        have u := o
        have E := q
        have b := B
        have c := D
        have F := P
        have HB := X
        clear o q B D P X
        (try clear hb)
        (try clear aL)
        (try clear hk)
        (try clear hi)
        refine hK.out _ _ ⟨(blk_cell F.out 0).trans rfl, (blk_cell F.out 1).trans rfl, (blk_cell F.out 2).trans rfl, (blk_cell F.out 3).trans rfl, (blk_cell F.out 4).trans rfl, (blk_cell F.out 5).trans rfl, (blk_cell b.out 0).trans rfl, (blk_cell b.out 1).trans rfl, (blk_cell b.out 2).trans rfl, (blk_cell b.out 3).trans rfl, (blk_cell b.out 4).trans rfl, (blk_cell b.out 5).trans rfl, (blk_cell c.out 0).trans rfl, (blk_cell c.out 1).trans rfl, (blk_cell c.out 2).trans rfl, (blk_cell c.out 3).trans rfl, (blk_cell c.out 4).trans rfl, (blk_cell c.out 5).trans rfl⟩ (fun hHeld => ?_)
        clear hK K
        refine norm_ (a' := ?_) ?_ ?_
        rotate_left
        ·show Act.put _ (some 45) _ = _
         simp only [Act.put, sA, sB, sC, i64_w, i32_w]
         rfl
        refine pure_ (i := 3) (N := some 46) (v := ?_) (a' := ?_) (bv 18 15) rfl rfl (any_of HT_.out (by kernel_rfl)) (fun _ _ _ h => h) (Or.inl ⟨by rfl, ?_⟩) ?_ ?_
        rotate_left
        ·intro w'
         go_simp
         with_reducible rfl
        rotate_left
        ·simp only [Act.put, sA, sB, sC, i64_w, i32_w]
         rfl
        refine pure_ (i := 4) (N := some 47) (v := ?_) (a' := ?_) (bv 18 31) rfl rfl (any_of HT_.out (by kernel_rfl)) (fun _ _ _ h => h) (Or.inl ⟨by rfl, ?_⟩) ?_ ?_
        rotate_left
        ·intro w'
         go_simp
         with_reducible rfl
        rotate_left
        ·simp only [Act.put, sA, sB, sC, i64_w, i32_w]
         rfl
        refine pure_ (i := 6) (N := some 49) (v := ?_) (a' := ?_) (bv 18 95) rfl rfl (any_of HT_.out (by kernel_rfl)) (fun _ _ _ h => h) (Or.inl ⟨by rfl, ?_⟩) ?_ ?_
        rotate_left
        ·intro w'
         go_simp
         with_reducible rfl
        rotate_left
        ·simp only [Act.put, sA, sB, sC, i64_w, i32_w]
         rfl
        refine take_ (i := 5) (N := some 48) (v := ?_) (a' := ?_) (bv 18 127) rfl rfl (take_ofW HT_.out HW_.out (by kernel_rfl)) (fun _ _ _ h => h) (Or.inl ⟨by rfl, ?_⟩) hHeld ?_ ?_
        rotate_left
        ·rintro w' ⟨s0, s1, s2, s3, s4, s5, s6, s7, s8, s9, av, aw, ax, ay, az, aA, aB, aC⟩
         go_simp
         with_reducible rfl
        rotate_left
        ·simp only [Act.put, sA, sB, sC, i64_w, i32_w]
         rfl
        refine take_ (i := 7) (N := some 50) (v := ?_) (a' := ?_) (bv 18 255) rfl rfl (take_ofW HT_.out HW_.out (by kernel_rfl)) (fun _ _ _ h => h) (Or.inl ⟨by rfl, ?_⟩) hHeld ?_ ?_
        rotate_left
        ·rintro w' ⟨s0, s1, s2, s3, s4, s5, s6, s7, s8, s9, av, aw, ax, ay, az, aA, aB, aC⟩
         go_simp
         with_reducible rfl
        rotate_left
        ·simp only [Act.put, sA, sB, sC, i64_w, i32_w]
         rfl
        refine pure_ (i := 8) (N := some 51) (v := ?_) (a' := ?_) (bv 18 511) rfl rfl (any_of HT_.out (by kernel_rfl)) (fun _ _ _ h => h) (Or.inl ⟨by rfl, ?_⟩) ?_ ?_
        rotate_left
        ·intro w'
         go_simp
         with_reducible rfl
        rotate_left
        ·simp only [Act.put, sA, sB, sC, i64_w, i32_w]
         rfl
        refine pure_ (i := 9) (N := some 52) (v := ?_) (a' := ?_) (bv 18 1023) rfl rfl (any_of HT_.out (by kernel_rfl)) (fun _ _ _ h => h) (Or.inl ⟨by rfl, ?_⟩) ?_ ?_
        rotate_left
        ·intro w'
         go_simp
         with_reducible rfl
        rotate_left
        ·simp only [Act.put, sA, sB, sC, i64_w, i32_w]
         rfl
        refine pure_ (i := 10) (N := some 53) (v := undef) (a' := ?_) (bv 18 2047) rfl rfl (any_of HT_.out (by kernel_rfl)) (fun _ _ _ h => h) (Or.inr ⟨by rfl, rfl⟩) ?_ ?_
        rotate_left
        ·simp only [Act.put, sA, sB, sC, i64_w, i32_w]
         rfl
        refine pure_ (i := 11) (N := some 54) (v := undef) (a' := ?_) (bv 18 4095) rfl rfl (any_of HT_.out (by kernel_rfl)) (fun _ _ _ h => h) (Or.inr ⟨by rfl, rfl⟩) ?_ ?_
        rotate_left
        ·simp only [Act.put, sA, sB, sC, i64_w, i32_w]
         rfl
        refine pure_ (i := 12) (N := some 55) (v := undef) (a' := ?_) (bv 18 8191) rfl rfl (any_of HT_.out (by kernel_rfl)) (fun _ _ _ h => h) (Or.inr ⟨by rfl, rfl⟩) ?_ ?_
        rotate_left
        ·simp only [Act.put, sA, sB, sC, i64_w, i32_w]
         rfl
        refine pure_ (i := 13) (N := some 56) (v := undef) (a' := ?_) (bv 18 16383) rfl rfl (any_of HT_.out (by kernel_rfl)) (fun _ _ _ h => h) (Or.inr ⟨by rfl, rfl⟩) ?_ ?_
        rotate_left
        ·simp only [Act.put, sA, sB, sC, i64_w, i32_w]
         rfl
        refine pure_ (i := 14) (N := some 57) (v := undef) (a' := ?_) (bv 18 32767) rfl rfl (any_of HT_.out (by kernel_rfl)) (fun _ _ _ h => h) (Or.inr ⟨by rfl, rfl⟩) ?_ ?_
        rotate_left
        ·simp only [Act.put, sA, sB, sC, i64_w, i32_w]
         rfl
        refine pure_ (i := 15) (N := some 58) (v := ?_) (a' := ?_) (bv 18 65535) rfl rfl (any_of HT_.out (by kernel_rfl)) (fun _ _ _ h => h) (Or.inl ⟨by rfl, ?_⟩) ?_ ?_
        rotate_left
        ·intro w'
         go_simp
         with_reducible rfl
        rotate_left
        ·simp only [Act.put, sA, sB, sC, i64_w, i32_w]
         rfl
        refine pure_ (i := 16) (N := some 59) (v := ?_) (a' := ?_) (bv 18 131071) rfl rfl (any_of HT_.out (by kernel_rfl)) (fun _ _ _ h => h) (Or.inl ⟨by rfl, ?_⟩) ?_ ?_
        rotate_left
        ·intro w'
         go_simp
         with_reducible rfl
        rotate_left
        ·simp only [Act.put, sA, sB, sC, i64_w, i32_w]
         rfl
        refine pure_ (i := 17) (N := some 4) (v := ?_) (a' := ?_) (bv 18 262143) rfl rfl (any_of HT_.out (by kernel_rfl)) (fun _ _ _ h => h) (Or.inl ⟨by rfl, ?_⟩) ?_ ?_
        rotate_left
        ·intro w'
         go_simp
         with_reducible rfl
        rotate_left
        ·simp only [Act.put, sA, sB, sC, i64_w, i32_w]
         rfl
        refine done_ (done_of HT_.out (by kernel_rfl)) ?_
        try go_wp2
        go_ret
        exact ⟨by first | rfl | (simp [errW_none, errW_some] <;> rfl) | (simp [*, errW_none, errW_some] <;> rfl), bl_⟩
       ·rw [if_neg bM] at H
        have eP : (J == j) = false := by simpa using bM
        (try (have eQ : decide (J = j) = false := by simpa using bM))
        (try (have eR : (J == j) = false := by simpa using bM))
        (try (have mr : ¬ (J = j) := by simpa using bM))
        clear bM
        replace H := Option.bind_eq_some_iff.mp H
        obtain ⟨aq, cQ, H⟩ := H
        replace H : (some (aq == m)) = some r := H
        have e3 := Z cQ
        clear cQ
        obtain rfl := Option.some.inj H
        go_enter Tryd.func11, Tryd.ntmps11
        try go_wp2_with (first | ((with_reducible refine gate_dst (N := 2) rfl ?_); (try (refine gate_guard (by rfl) ?_; dsimp only)); refine box_event ?hg (N := 2) ?hd (cs := #[.int .i64 y, .int .i64 z, .slice au d.length aa, .int .i64 m, .bool j, .bool A]) (t := 24) ?hr ?_; (case hd => rfl); (case hg => rfl); (case hr => first | (go_simp; done) | (go_simp; rfl)); intro x hg mV hbox hb; have o := Z (below_step bl_ hb); have q := Z (hbox); have B := Z ((le_new hg (below_size bl_) : w.heap.size ≤ x)); have D := Z ((le_new hg (below_size bl_) : w.heap.size ≤ x)); clear HB; have HB := o; have b := q; have bn := B; have cq := D; clear o q B D; clear hb hbox hg) | ((with_reducible refine gate_callee (f := 30) rfl ?_); refine goesL_ (some 11) rfl rfl Tryd.func30 (by kernel_rfl) rfl #[] rfl ag_ ?_; (with_reducible refine (shutterlaw14_awake.calls k  true _ ?sideG A3.out).mono ?_); (case sideG => exact laidG_below HG.out bl_ rfl); rintro e mW ⟨rfl, hb⟩; refine ⟨_, rfl, ?_⟩; have o := Z (kb b.out hb); have q := Z (below_step bl_ hb); clear b HB; have b := o; have HB := q; clear o q; (try clear hb); (try clear aL); (try clear hk); (try clear hi); obtain ⟨fr, fs, ft, fu, fv, fw, gM, gN, gO, gP, gQ, gR⟩ := cells6 b.out) | (go_at_call 18; (with_reducible refine (shutterref10_Few.calls k y z _ _ d m j A true _ ?side1 ?side2 A5.out).mono ?_); (case side1 => repeat (first | exact (Kd.C_below ap.out HB.out) | (with_reducible apply pC))); (case side2 => exact aH.out); rintro e mX ⟨rfl, hb⟩; have o := Z (kb b.out hb); have q := Z (below_step bl_ hb); clear b HB; have b := o; have HB := q; clear o q; (try clear hb); (try clear aL); (try clear hk); (try clear hi); obtain ⟨fx, fy, fz, fA, fB, fC, gS, gT, gU, gV, gW, gX⟩ := cells6 b.out) | ((with_reducible refine gate_callee (f := 31) rfl ?_); refine goesL_ (some 22) rfl rfl Tryd.func31 (by kernel_rfl) rfl #[.agg #[.int .i64 y, .int .i64 z, .slice au d.length aa, .int .i64 m, .bool j, .bool A], .int .u8 a1] rfl ag_ ?_; (with_reducible refine (edit_Type.calls k y z (fun k_ => k_ < w.heap.size) _ _ d m j A a1 L M g O J I (some bG) aG _ ?side1 A7.out).mono ?_); (case side1 => exact Kd.V_mk aH.out (Kd.F_below (Kd.C_F k35_heap ap.out) bl_)); rintro e mY ⟨eA, bH, rfl, b3, b4, hb⟩; refine ⟨_, rfl, ?_⟩; have o := Z (Kd.V_lower (Kd.V_mono (ok' := fun k_ => k_ ≠ x) b3 (fun k_ hk_ => Or.elim hk_ (fun hs_ => fun e_ => Nat.not_le.2 hs_ (by rw [e_]; exact bn.out)) (fun hn_ => (fb b.out k_ hn_)))) (below_size bl_)); have q := Z (Kd.V_lower (Kd.V_mono (ok' := fun k_ => k_ ≠ x) b4 (fun k_ hk_ => Or.elim hk_ (fun hs_ => fun e_ => Nat.not_le.2 hs_ (by rw [e_]; exact bn.out)) (fun hn_ => (fb b.out k_ hn_)))) (below_size bl_)); have B := Z (kb b.out hb); have D := Z (below_step bl_ hb); clear b HB; have u := o; have E := q; have b := B; have HB := D; clear o q B D; (try clear hb); (try clear aL); (try clear hk); (try clear hi); (try clear b3); (try clear b4); (try simp only [errW_none, errW_some])) | ((with_reducible refine gate_dst (N := 5) rfl ?_); (try (refine gate_guard (by rfl) ?_; dsimp only)); refine box_event ?hg (N := 5) ?hd (cs := #[.int .i64 0, .int .i64 0, .slice none 0 0, .int .i64 0, .bool false, .bool false]) (t := 24) ?hr ?_; (case hd => rfl); (case hg => rfl); (case hr => first | (go_simp; done) | (go_simp; rfl)); intro s hg hW hbox hb; have o := Z (ve u.out hg hb); have q := Z (ve E.out hg hb); have B := Z (kb b.out hb); have D := Z (below_step bl_ hb); have P := Z (hbox); have X := Z ((le_new hg (below_size bl_) : w.heap.size ≤ s)); have bk := Z ((le_new hg (below_size bl_) : w.heap.size ≤ s)); have bl := Z (nl b.out hg); have bm := Z (ng b.out hg); clear u E b HB; have u := o; have E := q; have b := B; have HB := D; have c := P; have cT := X; have cS := bk; have ab := bl; have ar := bm; clear o q B D P X bk bl bm; clear hb hbox hg; have lW := ar.out; have lZ := ab.out; obtain ⟨fD, fE, fF, fG, fH, fI, gY, gZ, g0, g1, g2, g3⟩ := cells6 c.out; obtain ⟨aE, aF, eT⟩ := Kd.V_slice u.out; subst eT) | ((with_reducible refine gate_store (t := 24) (p := 5) rfl ?_); refine store_event (t := 24) (p := 5) (v := ?vo_w117) (w1 := ((((((hW.setCell ⟨s, 0, none⟩ (.int .i64 L)).setCell ⟨s, 1, none⟩ (.int .i64 M)).setCell ⟨s, 2, none⟩ (.slice aE g.length aF)).setCell ⟨s, 3, none⟩ (.int .i64 O)).setCell ⟨s, 4, none⟩ (.bool J)).setCell ⟨s, 5, none⟩ (.bool I))) ?hg ?ho ?hn ?hr ?_; (case ho => rfl); (case hg => rfl); (case hn => rfl); (case hr => first | (go_simp; done) | (go_simp; rfl)); intro ca hw; have o : Aside0 (Kd.V k35 35 ca w.heap.size (fun k_ => k_ ≠ x ∧ k_ ≠ s) (.slice aE g.length aF) g) := ⟨(by rw [hw]; exact (by (with_reducible repeat apply pV); exact V_off u.out (fun k_ hk => hk.2) off2_ (fun _ hk => ⟨hk.1, hk.2⟩)))⟩; have q : Aside0 (Kd.V k164 164 ca w.heap.size (fun k_ => k_ ≠ x ∧ k_ ≠ s) bH aG) := ⟨(by rw [hw]; exact (by (with_reducible repeat apply pV); exact V_off E.out (fun k_ hk => hk.2) off2_ (fun _ hk => ⟨hk.1, hk.2⟩)))⟩; have B : Aside0 (ca.heap[x]? = some (.cells #[.int .i64 y, .int .i64 z, .slice au d.length aa, .int .i64 m, .bool j, .bool A] 24 (0, 0))) := ⟨(by rw [hw]; exact (by (with_reducible repeat apply pK); exact blk_off b.out ab.out off2_))⟩; have D : Aside0 (ca.heap[s]? = some (.cells #[.int .i64 L, .int .i64 M, .slice aE g.length aF, .int .i64 O, .bool J, .bool I] 24 (0, 0))) := ⟨by rw [hw]; exact (put6 c.out)⟩; have P : Aside0 (Below w.heap.size w ca) := ⟨by rw [hw]; exact bl_⟩; clear hw u E b c HB; have u := o; have E := q; have b := B; have c := D; have HB := P; clear o q B D P; obtain ⟨fJ, fK, fL, fM, fN, fO, g4, g5, g6, g7, g8, g9⟩ := cells6 c.out) | ((with_reducible refine gate_callee (f := 20) rfl ?_); refine goesL_ (some 26) rfl rfl Tryd.func20 (by kernel_rfl) rfl #[.agg #[.int .i64 L, .int .i64 M, .slice aE g.length aF, .int .i64 O, .bool J, .bool I]] rfl ag_ ?_; (with_reducible refine (shutterref10_Right.calls k L M _ _ g O J I true _ ?side1 ?side2 A8.out).mono ?_); (case side1 => repeat (first | exact (Kd.V_reads' u.out).2.2 | (with_reducible apply pC))); (case side2 => exact (Kd.V_reads' u.out).2.1); rintro e mZ ⟨rfl, hb⟩; refine ⟨_, rfl, ?_⟩; have o := Z (vb u.out hb); have q := Z (vb E.out hb); have B := Z (kb b.out hb); have D := Z (kb c.out hb); have P := Z (below_step bl_ hb); clear u E b c HB; have u := o; have E := q; have b := B; have c := D; have HB := P; clear o q B D P; (try clear hb); (try clear aL); (try clear hk); (try clear hi); obtain ⟨fP, fQ, fR, fS, fT, fU, ha, hc, he, hf, hh, hj⟩ := cells6 c.out; obtain ⟨fV, fW, fX, fY, fZ, ga, hl, hm, hp, hq, hs, ht⟩ := cells6 b.out) | ((with_reducible refine gate_dst (N := 7) rfl ?_); (try (refine gate_guard (by rfl) ?_; dsimp only)); refine box_event ?hg (N := 7) ?hd (cs := #[.int .i64 0, .int .i64 0, .slice none 0 0, .int .i64 0, .bool false, .bool false]) (t := 24) ?hr ?_; (case hd => rfl); (case hg => rfl); (case hr => first | (go_simp; done) | (go_simp; rfl)); intro G hg hX hbox hb; have o := Z (ve u.out hg hb); have q := Z (ve E.out hg hb); have B := Z (kb b.out hb); have D := Z (kb c.out hb); have P := Z (below_step bl_ hb); have X := Z (hbox); have bk := Z ((le_new hg (below_size bl_) : w.heap.size ≤ G)); have bl := Z ((le_new hg (below_size bl_) : w.heap.size ≤ G)); have bm := Z (nl b.out hg); have b5 := Z (ng b.out hg); have bN := Z (nl c.out hg); have b9 := Z (ng c.out hg); clear u E b c HB; have u := o; have E := q; have b := B; have c := D; have HB := P; have F := X; have eE := bk; have eD := bl; have aJ := bm; have bK := b5; have aK := bN; have bL := b9; clear o q B D P X bk bl bm b5 bN b9; clear hb hbox hg; have lX := bK.out; have l1 := aJ.out; have lY := bL.out; have l2 := aK.out; obtain ⟨gb, gc, gd, ge, gf, gg, hu, hv, hx, hy, hz, hA⟩ := cells6 F.out) | ((with_reducible refine gate_store (t := 24) (p := 7) rfl ?_); refine store_event (t := 24) (p := 7) (v := ?vo_w126) (w1 := ((((((hX.setCell ⟨G, 0, none⟩ (.int .i64 L)).setCell ⟨G, 1, none⟩ (.int .i64 M)).setCell ⟨G, 2, none⟩ (.slice aE g.length aF)).setCell ⟨G, 3, none⟩ (.int .i64 O)).setCell ⟨G, 4, none⟩ (.bool J)).setCell ⟨G, 5, none⟩ (.bool I))) ?hg ?ho ?hn ?hr ?_; (case ho => rfl); (case hg => rfl); (case hn => rfl); (case hr => first | (go_simp; done) | (go_simp; rfl)); intro bj hw; have o : Aside0 (Kd.V k35 35 bj w.heap.size (fun k_ => k_ ≠ x ∧ k_ ≠ s ∧ k_ ≠ G) (.slice aE g.length aF) g) := ⟨(by rw [hw]; exact (by (with_reducible repeat apply pV); exact V_off u.out (fun k_ hk => hk.2) off2_ (fun _ hk => ⟨hk.1.1, ⟨hk.1.2, hk.2⟩⟩)))⟩; have q : Aside0 (Kd.V k164 164 bj w.heap.size (fun k_ => k_ ≠ x ∧ k_ ≠ s ∧ k_ ≠ G) bH aG) := ⟨(by rw [hw]; exact (by (with_reducible repeat apply pV); exact V_off E.out (fun k_ hk => hk.2) off2_ (fun _ hk => ⟨hk.1.1, ⟨hk.1.2, hk.2⟩⟩)))⟩; have B : Aside0 (bj.heap[x]? = some (.cells #[.int .i64 y, .int .i64 z, .slice au d.length aa, .int .i64 m, .bool j, .bool A] 24 (0, 0))) := ⟨(by rw [hw]; exact (by (with_reducible repeat apply pK); exact blk_off b.out aJ.out off2_))⟩; have D : Aside0 (bj.heap[s]? = some (.cells #[.int .i64 L, .int .i64 M, .slice aE g.length aF, .int .i64 O, .bool J, .bool I] 24 (0, 0))) := ⟨(by rw [hw]; exact (by (with_reducible repeat apply pK); exact blk_off c.out aK.out off2_))⟩; have P : Aside0 (bj.heap[G]? = some (.cells #[.int .i64 L, .int .i64 M, .slice aE g.length aF, .int .i64 O, .bool J, .bool I] 24 (0, 0))) := ⟨by rw [hw]; exact (put6 F.out)⟩; have X : Aside0 (Below w.heap.size w bj) := ⟨by rw [hw]; exact bl_⟩; clear hw u E b c F HB; have u := o; have E := q; have b := B; have c := D; have F := P; have HB := X; clear o q B D P X; obtain ⟨gh, gi, gj, gl, gm, gn, hB, hC, hD, hE, hF, hH⟩ := cells6 b.out; obtain ⟨go, gp, gq, gr, gs, gt, hI, hJ, hL, hM, hN, hO⟩ := cells6 F.out))
        have o : Aside0 (Kd.V k35 35 (bj.setCell ⟨G, 4, none⟩ (.bool j)) w.heap.size (fun k_ => k_ ≠ x ∧ k_ ≠ s ∧ k_ ≠ G) (.slice aE g.length aF) g) := ⟨by (with_reducible repeat apply pV); exact Kd.V_mono (Kd.V_far (p := ⟨G, 4, none⟩) (Kd.V_mono u.out (fun k_ hk => (⟨hk, hk.2.2⟩ : _ ∧ k_ ≠ G))) (fun _ hk => hk.2) (.bool j)) (fun _ hk => ⟨hk.1.1, ⟨hk.1.2.1, hk.1.2.2⟩⟩)⟩
        have q : Aside0 (Kd.V k164 164 (bj.setCell ⟨G, 4, none⟩ (.bool j)) w.heap.size (fun k_ => k_ ≠ x ∧ k_ ≠ s ∧ k_ ≠ G) bH aG) := ⟨by (with_reducible repeat apply pV); exact Kd.V_mono (Kd.V_far (p := ⟨G, 4, none⟩) (Kd.V_mono E.out (fun k_ hk => (⟨hk, hk.2.2⟩ : _ ∧ k_ ≠ G))) (fun _ hk => hk.2) (.bool j)) (fun _ hk => ⟨hk.1.1, ⟨hk.1.2.1, hk.1.2.2⟩⟩)⟩
        have B : Aside0 ((bj.setCell ⟨G, 4, none⟩ (.bool j)).heap[x]? = some (.cells #[.int .i64 y, .int .i64 z, .slice au d.length aa, .int .i64 m, .bool j, .bool A] 24 (0, 0))) := ⟨by (with_reducible repeat apply pK); exact blk_off b.out aJ.out off2_⟩
        have D : Aside0 ((bj.setCell ⟨G, 4, none⟩ (.bool j)).heap[s]? = some (.cells #[.int .i64 L, .int .i64 M, .slice aE g.length aF, .int .i64 O, .bool J, .bool I] 24 (0, 0))) := ⟨by (with_reducible repeat apply pK); exact blk_off c.out aK.out off2_⟩
        have P : Aside0 ((bj.setCell ⟨G, 4, none⟩ (.bool j)).heap[G]? = some (.cells #[.int .i64 L, .int .i64 M, .slice aE g.length aF, .int .i64 O, .bool j, .bool I] 24 (0, 0))) := ⟨by (with_reducible repeat apply pK); refine blk_put (cs := #[.int .i64 L, .int .i64 M, .slice aE g.length aF, .int .i64 O, .bool J, .bool I]) ?_ 4 _ rfl; (with_reducible repeat apply pK); exact F.out⟩
        have X : Aside0 (Below w.heap.size w (bj.setCell ⟨G, 4, none⟩ (.bool j))) := ⟨bl_⟩
        (try clear u)
        (try clear E)
        (try clear b)
        (try clear c)
        (try clear F)
        (try clear HB)
        generalize (bj.setCell ⟨G, 4, none⟩ (.bool j)) = hY at o q B D P X ⊢
        have u := o
        have E := q
        have b := B
        have c := D
        have F := P
        have HB := X
        clear o q B D P X
        have o := Z (Kd.V_drew u.out)
        have q := Z (Kd.V_drew E.out)
        have B := Z (blk_drew b.out)
        have D := Z (blk_drew c.out)
        have P := Z (blk_drew F.out)
        have X := Z (below_drew1 HB.out)
        clear u
        clear E
        clear b
        clear c
        clear F
        clear HB
        have u := o
        have E := q
        have b := B
        have c := D
        have F := P
        have HB := X
        clear o q B D P X
        refine start_ (n := 18) (S := fun w' => w'.cell? ⟨G, 0, none⟩ = some (.int .i64 L) ∧ w'.cell? ⟨G, 1, none⟩ = some (.int .i64 M) ∧ w'.cell? ⟨G, 2, none⟩ = some (.slice aE g.length aF) ∧ w'.cell? ⟨G, 3, none⟩ = some (.int .i64 O) ∧ w'.cell? ⟨G, 4, none⟩ = some (.bool j) ∧ w'.cell? ⟨G, 5, none⟩ = some (.bool I) ∧ w'.cell? ⟨x, 0, none⟩ = some (.int .i64 y) ∧ w'.cell? ⟨x, 1, none⟩ = some (.int .i64 z) ∧ w'.cell? ⟨x, 2, none⟩ = some (.slice au d.length aa) ∧ w'.cell? ⟨x, 3, none⟩ = some (.int .i64 m) ∧ w'.cell? ⟨x, 4, none⟩ = some (.bool j) ∧ w'.cell? ⟨x, 5, none⟩ = some (.bool A) ∧ w'.cell? ⟨s, 0, none⟩ = some (.int .i64 L) ∧ w'.cell? ⟨s, 1, none⟩ = some (.int .i64 M) ∧ w'.cell? ⟨s, 2, none⟩ = some (.slice aE g.length aF) ∧ w'.cell? ⟨s, 3, none⟩ = some (.int .i64 O) ∧ w'.cell? ⟨s, 4, none⟩ = some (.bool J) ∧ w'.cell? ⟨s, 5, none⟩ = some (.bool I)) (ds := []) (bv 18 0) (by kernel_rfl) rfl rfl ⟨(blk_cell F.out 0).trans rfl, (blk_cell F.out 1).trans rfl, (blk_cell F.out 2).trans rfl, (blk_cell F.out 3).trans rfl, (blk_cell F.out 4).trans rfl, (blk_cell F.out 5).trans rfl, (blk_cell b.out 0).trans rfl, (blk_cell b.out 1).trans rfl, (blk_cell b.out 2).trans rfl, (blk_cell b.out 3).trans rfl, (blk_cell b.out 4).trans rfl, (blk_cell b.out 5).trans rfl, (blk_cell c.out 0).trans rfl, (blk_cell c.out 1).trans rfl, (blk_cell c.out 2).trans rfl, (blk_cell c.out 3).trans rfl, (blk_cell c.out 4).trans rfl, (blk_cell c.out 5).trans rfl⟩ (fun hHeld => ?_); refine with_tabW shutterlaw14_EditGuards.tab9 shutterlaw14_EditGuards.bits9 (fun HT_ HW_ => ?_)
        generalize hY.drew = m0 at u E b c F HB hHeld ⊢
        refine take_ (i := 0) (N := some 43) (v := ?_) (a' := ?_) (bv 18 1) rfl rfl (take_ofW HT_.out HW_.out (by kernel_rfl)) (fun _ _ _ h => h) (Or.inl ⟨by rfl, ?_⟩) hHeld ?_ ?_
        rotate_left
        ·rintro w' ⟨s0, s1, s2, s3, s4, s5, s6, s7, s8, s9, av, aw, ax, ay, az, aA, aB, aC⟩
         go_simp
         with_reducible rfl
        rotate_left
        ·simp only [Act.put, sA, sB, sC, i64_w, i32_w]
         rfl
        refine take_ (i := 1) (N := some 44) (v := ?_) (a' := ?_) (bv 18 3) rfl rfl (take_ofW HT_.out HW_.out (by kernel_rfl)) (fun _ _ _ h => h) (Or.inl ⟨by rfl, ?_⟩) hHeld ?_ ?_
        rotate_left
        ·rintro w' ⟨s0, s1, s2, s3, s4, s5, s6, s7, s8, s9, av, aw, ax, ay, az, aA, aB, aC⟩
         go_simp
         with_reducible rfl
        rotate_left
        ·simp only [Act.put, sA, sB, sC, i64_w, i32_w]
         rfl
        refine one_ (i := 2) (N := some 45) (bv 18 7) rfl rfl (one_of HT_.out (by kernel_rfl)) (by decide) (fun K hK => ?_)
        refine goes_ Tryd.func24 (by kernel_rfl) rfl #[.agg #[.int .i64 L, .int .i64 M, .slice aE g.length aF, .int .i64 O, .bool j, .bool I], .agg #[.int .i64 y, .int .i64 z, .slice au d.length aa, .int .i64 m, .bool j, .bool A]] (by rfl) rfl rfl ag_ ?_
        with_reducible refine (shutterref10_Same.calls k L M _ _ g O j I y z _ _ d m j A true _ ?side1 ?side2 ?side3 ?side4 eZ.out).mono ?_
        (case side1 => repeat (first | exact (Kd.V_reads' u.out).2.2 | (with_reducible apply pC)))
        (case side2 => exact (Kd.V_reads' u.out).2.1)
        (case side3 => repeat (first | exact (Kd.C_below ap.out HB.out) | (with_reducible apply pC)))
        (case side4 => exact aH.out)
        rintro e m1 ⟨rfl, hb⟩
        refine ⟨_, rfl, ?_⟩
        have o := Z (vb u.out hb)
        have q := Z (vb E.out hb)
        have B := Z (kb b.out hb)
        have D := Z (kb c.out hb)
        have P := Z (kb F.out hb)
        have X := Z (below_step bl_ hb)
        clear u
        clear E
        clear b
        clear c
        clear F
        clear HB
        have u := o
        have E := q
        have b := B
        have c := D
        have F := P
        have HB := X
        clear o q B D P X
        (try clear hb)
        (try clear aL)
        (try clear hk)
        (try clear hi)
        obtain ⟨eC, eS, dd⟩ := Kd.V_slice E.out
        (first | subst dd | (injection dd with e1 lT e2; have lU := e1.symm; have lV := e2.symm; clear e1 lT e2; subst lU; subst lV))
        refine hK.out _ _ ⟨(blk_cell F.out 0).trans rfl, (blk_cell F.out 1).trans rfl, (blk_cell F.out 2).trans rfl, (blk_cell F.out 3).trans rfl, (blk_cell F.out 4).trans rfl, (blk_cell F.out 5).trans rfl, (blk_cell b.out 0).trans rfl, (blk_cell b.out 1).trans rfl, (blk_cell b.out 2).trans rfl, (blk_cell b.out 3).trans rfl, (blk_cell b.out 4).trans rfl, (blk_cell b.out 5).trans rfl, (blk_cell c.out 0).trans rfl, (blk_cell c.out 1).trans rfl, (blk_cell c.out 2).trans rfl, (blk_cell c.out 3).trans rfl, (blk_cell c.out 4).trans rfl, (blk_cell c.out 5).trans rfl⟩ (fun hHeld => ?_)
        clear hK K
        refine norm_ (a' := ?_) ?_ ?_
        rotate_left
        ·show Act.put _ (some 45) _ = _
         simp only [Act.put, sA, sB, sC, i64_w, i32_w]
         rfl
        refine pure_ (i := 3) (N := some 46) (v := ?_) (a' := ?_) (bv 18 15) rfl rfl (any_of HT_.out (by kernel_rfl)) (fun _ _ _ h => h) (Or.inl ⟨by rfl, ?_⟩) ?_ ?_
        rotate_left
        ·intro w'
         go_simp
         with_reducible rfl
        rotate_left
        ·simp only [Act.put, sA, sB, sC, i64_w, i32_w]
         rfl
        refine pure_ (i := 4) (N := some 47) (v := ?_) (a' := ?_) (bv 18 31) rfl rfl (any_of HT_.out (by kernel_rfl)) (fun _ _ _ h => h) (Or.inl ⟨by rfl, ?_⟩) ?_ ?_
        rotate_left
        ·intro w'
         go_simp
         with_reducible rfl
        rotate_left
        ·simp only [Act.put, sA, sB, sC, i64_w, i32_w]
         rfl
        refine pure_ (i := 6) (N := some 49) (v := ?_) (a' := ?_) (bv 18 95) rfl rfl (any_of HT_.out (by kernel_rfl)) (fun _ _ _ h => h) (Or.inl ⟨by rfl, ?_⟩) ?_ ?_
        rotate_left
        ·intro w'
         go_simp
         with_reducible rfl
        rotate_left
        ·simp only [Act.put, sA, sB, sC, i64_w, i32_w]
         rfl
        refine take_ (i := 5) (N := some 48) (v := ?_) (a' := ?_) (bv 18 127) rfl rfl (take_ofW HT_.out HW_.out (by kernel_rfl)) (fun _ _ _ h => h) (Or.inl ⟨by rfl, ?_⟩) hHeld ?_ ?_
        rotate_left
        ·rintro w' ⟨s0, s1, s2, s3, s4, s5, s6, s7, s8, s9, av, aw, ax, ay, az, aA, aB, aC⟩
         go_simp
         with_reducible rfl
        rotate_left
        ·simp only [Act.put, sA, sB, sC, i64_w, i32_w]
         rfl
        refine take_ (i := 7) (N := some 50) (v := ?_) (a' := ?_) (bv 18 255) rfl rfl (take_ofW HT_.out HW_.out (by kernel_rfl)) (fun _ _ _ h => h) (Or.inl ⟨by rfl, ?_⟩) hHeld ?_ ?_
        rotate_left
        ·rintro w' ⟨s0, s1, s2, s3, s4, s5, s6, s7, s8, s9, av, aw, ax, ay, az, aA, aB, aC⟩
         go_simp
         with_reducible rfl
        rotate_left
        ·simp only [Act.put, sA, sB, sC, i64_w, i32_w]
         rfl
        refine pure_ (i := 8) (N := some 51) (v := ?_) (a' := ?_) (bv 18 511) rfl rfl (any_of HT_.out (by kernel_rfl)) (fun _ _ _ h => h) (Or.inl ⟨by rfl, ?_⟩) ?_ ?_
        rotate_left
        ·intro w'
         go_simp
         with_reducible rfl
        rotate_left
        ·simp only [Act.put, sA, sB, sC, i64_w, i32_w]
         rfl
        refine pure_ (i := 9) (N := some 52) (v := ?_) (a' := ?_) (bv 18 1023) rfl rfl (any_of HT_.out (by kernel_rfl)) (fun _ _ _ h => h) (Or.inl ⟨by rfl, ?_⟩) ?_ ?_
        rotate_left
        ·intro w'
         go_simp
         with_reducible rfl
        rotate_left
        ·simp only [Act.put, sA, sB, sC, i64_w, i32_w]
         rfl
        refine pure_ (i := 10) (N := some 53) (v := ?_) (a' := ?_) (bv 18 2047) rfl rfl (any_of HT_.out (by kernel_rfl)) (fun _ _ _ h => h) (Or.inl ⟨by rfl, ?_⟩) ?_ ?_
        rotate_left
        ·intro w'
         go_simp
         with_reducible rfl
        rotate_left
        ·simp only [Act.put, sA, sB, sC, i64_w, i32_w]
         rfl
        refine pure_ (i := 12) (N := some 55) (v := ?_) (a' := ?_) (bv 18 6143) rfl rfl (any_of HT_.out (by kernel_rfl)) (fun _ _ _ h => h) (Or.inl ⟨by rfl, ?_⟩) ?_ ?_
        rotate_left
        ·intro w'
         go_simp
         with_reducible rfl
        rotate_left
        ·simp only [Act.put, sA, sB, sC, i64_w, i32_w]
         rfl
        refine take_ (i := 13) (N := some 56) (v := ?_) (a' := ?_) (bv 18 14335) rfl rfl (take_ofW HT_.out HW_.out (by kernel_rfl)) (fun _ _ _ h => h) (Or.inl ⟨by rfl, ?_⟩) hHeld ?_ ?_
        rotate_left
        ·rintro w' ⟨s0, s1, s2, s3, s4, s5, s6, s7, s8, s9, av, aw, ax, ay, az, aA, aB, aC⟩
         go_simp
         with_reducible rfl
        rotate_left
        ·simp only [Act.put, sA, sB, sC, i64_w, i32_w]
         rfl
        refine one_ (i := 11) (N := some 54) (bv 18 16383) rfl rfl (one_of HT_.out (by kernel_rfl)) (by decide) (fun K hK => ?_)
        refine goes_ Tryd.func28 (by kernel_rfl) rfl #[errW (.slice eC aG.length eS) (some bG)] (by rfl) rfl rfl ag_ ?_
        with_reducible refine (api_Where.calls (some bG) _ _ aG aq _ ?side1 ?side2 ?sideG e3.out).mono ?_
        (case sideG => exact laidG_below HG.out bl_ rfl)
        (case side1 => repeat (first | exact (Kd.V_reads' E.out).2.2 | (with_reducible apply pC)))
        (case side2 => exact (Kd.V_reads' E.out).2.1)
        rintro e m2 ⟨rfl, hb⟩
        refine ⟨_, rfl, ?_⟩
        have o := Z (vb u.out hb)
        have q := Z (vb E.out hb)
        have B := Z (kb b.out hb)
        have D := Z (kb c.out hb)
        have P := Z (kb F.out hb)
        have X := Z (below_step bl_ hb)
        clear u
        clear E
        clear b
        clear c
        clear F
        clear HB
        have u := o
        have E := q
        have b := B
        have c := D
        have F := P
        have HB := X
        clear o q B D P X
        (try clear hb)
        (try clear aL)
        (try clear hk)
        (try clear hi)
        refine hK.out _ _ ⟨(blk_cell F.out 0).trans rfl, (blk_cell F.out 1).trans rfl, (blk_cell F.out 2).trans rfl, (blk_cell F.out 3).trans rfl, (blk_cell F.out 4).trans rfl, (blk_cell F.out 5).trans rfl, (blk_cell b.out 0).trans rfl, (blk_cell b.out 1).trans rfl, (blk_cell b.out 2).trans rfl, (blk_cell b.out 3).trans rfl, (blk_cell b.out 4).trans rfl, (blk_cell b.out 5).trans rfl, (blk_cell c.out 0).trans rfl, (blk_cell c.out 1).trans rfl, (blk_cell c.out 2).trans rfl, (blk_cell c.out 3).trans rfl, (blk_cell c.out 4).trans rfl, (blk_cell c.out 5).trans rfl⟩ (fun hHeld => ?_)
        clear hK K
        refine norm_ (a' := ?_) ?_ ?_
        rotate_left
        ·show Act.put _ (some 54) _ = _
         simp only [Act.put, sA, sB, sC, i64_w, i32_w]
         rfl
        refine pure_ (i := 14) (N := some 57) (v := ?_) (a' := ?_) (bv 18 32767) rfl rfl (any_of HT_.out (by kernel_rfl)) (fun _ _ _ h => h) (Or.inl ⟨by rfl, ?_⟩) ?_ ?_
        rotate_left
        ·intro w'
         go_simp
         with_reducible rfl
        rotate_left
        ·simp only [Act.put, sA, sB, sC, i64_w, i32_w]
         rfl
        refine pure_ (i := 15) (N := some 58) (v := ?_) (a' := ?_) (bv 18 65535) rfl rfl (any_of HT_.out (by kernel_rfl)) (fun _ _ _ h => h) (Or.inl ⟨by rfl, ?_⟩) ?_ ?_
        rotate_left
        ·intro w'
         go_simp
         with_reducible rfl
        rotate_left
        ·simp only [Act.put, sA, sB, sC, i64_w, i32_w]
         rfl
        refine pure_ (i := 16) (N := some 59) (v := ?_) (a' := ?_) (bv 18 131071) rfl rfl (any_of HT_.out (by kernel_rfl)) (fun _ _ _ h => h) (Or.inl ⟨by rfl, ?_⟩) ?_ ?_
        rotate_left
        ·intro w'
         go_simp
         with_reducible rfl
        rotate_left
        ·simp only [Act.put, sA, sB, sC, i64_w, i32_w]
         rfl
        refine pure_ (i := 17) (N := some 4) (v := ?_) (a' := ?_) (bv 18 262143) rfl rfl (any_of HT_.out (by kernel_rfl)) (fun _ _ _ h => h) (Or.inl ⟨by rfl, ?_⟩) ?_ ?_
        rotate_left
        ·intro w'
         go_simp
         with_reducible rfl
        rotate_left
        ·simp only [Act.put, sA, sB, sC, i64_w, i32_w]
         rfl
        refine done_ (done_of HT_.out (by kernel_rfl)) ?_
        try go_wp2
        go_ret
        exact ⟨by first | rfl | (simp [errW_none, errW_some] <;> rfl) | (simp [*, errW_none, errW_some] <;> rfl), bl_⟩
      ·replace dc := Bool.eq_false_iff.mpr dc
       subst dc
       have H1 : (none) = some r := by rw [if_neg (show ¬ (false = true) by decide)] at H; exact H
       clear H
       have H := H1
       clear H1
       exact absurd H (by simp)
    ·rw [if_neg c10] at H
     exact absurd H (by simp)
   ·replace c9 := Bool.eq_false_iff.mpr c9
    subst c9
    have H1 : (none) = some r := by rw [if_neg (show ¬ (false = true) by decide)] at H; exact H
    clear H
    have H := H1
    clear H1
    exact absurd H (by simp)
  ·replace c6 := Bool.eq_false_iff.mpr c6
   subst c6
   have H1 : ((shutterlaw14_awake.f k).bind fun bh => (some bh)) = some r := by rw [if_neg (show ¬ (false = true) by decide)] at H; exact H
   clear H
   have H := H1
   clear H1
   replace H := Option.bind_eq_some_iff.mp H
   obtain ⟨bh, cR, H⟩ := H
   replace H : (some bh) = some r := H
   have et := Z cR
   clear cR
   obtain rfl := Option.some.inj H
   go_enter Tryd.func11, Tryd.ntmps11
   go_wp2_with (first | ((with_reducible refine gate_dst (N := 2) rfl ?_); (try (refine gate_guard (by rfl) ?_; dsimp only)); refine box_event ?hg (N := 2) ?hd (cs := #[.int .i64 y, .int .i64 z, .slice au d.length aa, .int .i64 m, .bool j, .bool A]) (t := 24) ?hr ?_; (case hd => rfl); (case hg => rfl); (case hr => first | (go_simp; done) | (go_simp; rfl)); intro x hg m3 hbox hb; have o := Z (below_step bl_ hb); have q := Z (hbox); have B := Z ((le_new hg (below_size bl_) : w.heap.size ≤ x)); have D := Z ((le_new hg (below_size bl_) : w.heap.size ≤ x)); clear HB; have HB := o; have b := q; have bn := B; have cq := D; clear o q B D; clear hb hbox hg) | ((with_reducible refine gate_callee (f := 30) rfl ?_); refine goesL_ (some 11) rfl rfl Tryd.func30 (by kernel_rfl) rfl #[] rfl ag_ ?_; (with_reducible refine (shutterlaw14_awake.calls k  true _ ?sideG A3.out).mono ?_); (case sideG => exact laidG_below HG.out bl_ rfl); rintro e m4 ⟨rfl, hb⟩; refine ⟨_, rfl, ?_⟩; have o := Z (kb b.out hb); have q := Z (below_step bl_ hb); clear b HB; have b := o; have HB := q; clear o q; (try clear hb); (try clear aL); (try clear hk); (try clear hi); obtain ⟨gu, gv, gw, gx, gy, gz, hP, hQ, hR, hS, hT, hU⟩ := cells6 b.out) | (go_at_call 18; (with_reducible refine (shutterref10_Few.calls k y z _ _ d m j A false _ ?side1 ?side2 A5.out).mono ?_); (case side1 => repeat (first | exact (Kd.C_below ap.out HB.out) | (with_reducible apply pC))); (case side2 => exact aH.out); rintro e m5 ⟨rfl, hb⟩; have o := Z (kb b.out hb); have q := Z (below_step bl_ hb); clear b HB; have b := o; have HB := q; clear o q; (try clear hb); (try clear aL); (try clear hk); (try clear hi)) | ((with_reducible refine gate_callee (f := 30) rfl ?_); refine goesL_ (some 18) rfl rfl Tryd.func30 (by kernel_rfl) rfl #[] rfl ag_ ?_; (with_reducible refine (shutterlaw14_awake.calls k  bh _ ?sideG et.out).mono ?_); (case sideG => exact laidG_below HG.out bl_ rfl); rintro e m6 ⟨rfl, hb⟩; refine ⟨_, rfl, ?_⟩; have o := Z (kb b.out hb); have q := Z (below_step bl_ hb); clear b HB; have b := o; have HB := q; clear o q; (try clear hb); (try clear aL); (try clear hk); (try clear hi)))
   go_ret
   have e_ : bh = true := Option.some.inj (et.out.symm.trans A3.out)
   exact ⟨by first | rfl | (simp [errW_none, errW_some] <;> rfl) | (simp [*, errW_none, errW_some] <;> rfl), bl_⟩
 ·replace c4 := Bool.eq_false_iff.mpr c4
  subst c4
  have H1 : (none) = some r := by rw [if_neg (show ¬ (false = true) by decide)] at H; exact H
  clear H
  have H := H1
  clear H1
  exact absurd H (by simp)

end Go.Proofs.YtggecanpjkpkiaaDoor.P
