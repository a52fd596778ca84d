/- The functions of the seat's laws as plain Lean functions, and that Go's code comes to just their answers. Written by pp.py (wip/tools), a program of this session, on the kit's print. -/
import Derived.Test.YtapcfcagjlmgjaaDoorPx0
import Derived.Test.YtapcfcagjlmgjaaDoorPx6
import Derived.Test.YtapcfcagjlmgjaaDoorPx7
import Derived.Test.YtapcfcagjlmgjaaDoorPx8
import Derived.Test.YtapcfcagjlmgjaaDoorPx12
namespace Go.Proofs.YtapcfcagjlmgjaaDoor.P
open Go.RowKit Go.Proofs.YtapcfcagjlmgjaaDoorW.PrintWords Go.Proofs.YtapcfcagjlmgjaaDoorW.PrintLast Go.Proofs.YtapcfcagjlmgjaaDoorW.PrintMore
attribute [local go_sem] max2_int min2_int max_two min_two max_three min_three max_four min_four   -- for this text's walks alone
attribute [local go_sem] Instr.field asAgg
set_option linter.unusedVariables false
set_option linter.unusedSimpArgs false

/-! ### shutterlaw15_MoveAlone: function 4 -/
def shutterlaw15_MoveAlone.j0 : Nat → Int → Option Int → Bool → Int → Int → List (S44) → Int → Bool → Bool → Int → Int → List (S44) → Int → Bool → Bool → Option (Bool)
 | 0, _, _, _, _, _, _, _, _, _, _, _, _, _, _, _ => none
 | k + 1, x5, x7, x57, x290000, x290001, x290002, x290003, x290004, x290005, x303000, x303001, x303002, x303003, x303004, x303005 => if x57 = true then (none) else (if x7.isNone = true then (if x5 < 6 then (some true) else ((shutterref11_Next.f k x290000 x290001 x290002 x290003 x290004 x290005 0).bind fun t308 => (if t308 < 0 then (some true) else ((shutterref11_Open.f k x303000 x303001 x303002 x303003 x303004 x303005 x303003).bind fun t309 => (some t309))))) else (some true))
def shutterlaw15_MoveAlone.f (k : Nat) (a0_0 : Int) (a0_1 : Int) (l0_2 : List (S44)) (a0_3 : Int) (a0_4 : Bool) (a0_5 : Bool) (a1 : Int) : Option (Bool) := (shutterlaw15_awake.f k).bind fun t290 => (if t290 = true then ((shutterref10_Few.f k a0_0 a0_1 l0_2 a0_3 a0_4 a0_5).bind fun t291 => (if t291 = true then ((move_Do.f k a0_0 a0_1 l0_2 a0_3 a0_4 a0_5 (wrap64 (2 + (wrap64 (Int.tmod a1 8))))).bind fun bt293 => ((shutterref10_Same.f k bt293.1 bt293.2.1 bt293.2.2.1 a0_3 bt293.2.2.2.2.1 bt293.2.2.2.2.2.1 a0_0 a0_1 l0_2 a0_3 a0_4 a0_5).bind fun t304 => (if t304 = true then ((shutterref10_Right.f k bt293.1 bt293.2.1 bt293.2.2.1 bt293.2.2.2.1 bt293.2.2.2.2.1 bt293.2.2.2.2.2.1).bind fun t305 => (if t305 = true then (if bt293.2.2.2.2.2.2.isNone = true then (if (false != a0_4) = true then (none) else (shutterlaw15_MoveAlone.j0 k (wrap64 (2 + (wrap64 (Int.tmod a1 8)))) none false a0_0 a0_1 l0_2 a0_3 a0_4 a0_5 bt293.1 bt293.2.1 bt293.2.2.1 bt293.2.2.2.1 bt293.2.2.2.2.1 bt293.2.2.2.2.2.1)) else (if (true != a0_4) = true then (none) else (shutterlaw15_MoveAlone.j0 k (wrap64 (2 + (wrap64 (Int.tmod a1 8)))) (some (bt293.2.2.2.2.2.2.getD 0)) (bt293.2.2.2.1 != a0_3) a0_0 a0_1 l0_2 a0_3 a0_4 a0_5 bt293.1 bt293.2.1 bt293.2.2.1 bt293.2.2.2.1 bt293.2.2.2.2.1 bt293.2.2.2.2.2.1))) else (none))) else (none)))) else ((shutterlaw15_awake.f k).bind fun t292 => (some t292)))) else (none))
theorem shutterlaw15_MoveAlone.mono_l : ∀ k, (∀ y0 y1 y2 y3 y4 y5 y6 y7 y8 y9 y10 y11 y12 y13 y14, LeO (shutterlaw15_MoveAlone.j0 k y0 y1 y2 y3 y4 y5 y6 y7 y8 y9 y10 y11 y12 y13 y14) (shutterlaw15_MoveAlone.j0 (k + 1) y0 y1 y2 y3 y4 y5 y6 y7 y8 y9 y10 y11 y12 y13 y14))
 | 0 => fun _ _ _ _ _ _ _ _ _ _ _ _ _ _ _ r h => by simp [shutterlaw15_MoveAlone.j0] at h
 | k + 1 => by
  have ih0 := shutterlaw15_MoveAlone.mono_l k
  ·intro y0 y1 y2 y3 y4 y5 y6 y7 y8 y9 y10 y11 y12 y13 y14
   unfold shutterlaw15_MoveAlone.j0
   repeat' first
   | (with_reducible exact ih0 _ _ _ _ _ _ _ _ _ _ _ _ _ _ _)
   | (with_reducible exact move_Do.mono _ _ _ _ _ _ _ _)
   | (with_reducible exact shutterlaw15_awake.mono _)
   | (with_reducible exact shutterref10_Few.mono _ _ _ _ _ _ _)
   | (with_reducible exact shutterref10_Right.mono _ _ _ _ _ _ _)
   | (with_reducible exact shutterref10_Same.mono _ _ _ _ _ _ _ _ _ _ _ _ _)
   | (with_reducible exact shutterref11_Next.mono _ _ _ _ _ _ _ _)
   | (with_reducible exact shutterref11_Open.mono _ _ _ _ _ _ _ _)
   | (with_reducible exact LeO.refl _)
   | (with_reducible exact LeO.none _)
   | (with_reducible refine LeO.ite ?_ ?_)
   | (with_reducible refine LeO.bind ?_ (fun _ => ?_))
   | exact ih0 _ _ _ _ _ _ _ _ _ _ _ _ _ _ _
   | exact move_Do.mono _ _ _ _ _ _ _ _
   | exact shutterlaw15_awake.mono _
   | exact shutterref10_Few.mono _ _ _ _ _ _ _
   | exact shutterref10_Right.mono _ _ _ _ _ _ _
   | exact shutterref10_Same.mono _ _ _ _ _ _ _ _ _ _ _ _ _
   | exact shutterref11_Next.mono _ _ _ _ _ _ _ _
   | exact shutterref11_Open.mono _ _ _ _ _ _ _ _
   | exact LeO.none _
   | refine LeO.ite ?_ ?_
   | refine LeO.bind ?_ (fun _ => ?_)
theorem shutterlaw15_MoveAlone.mono : ∀ a0 a1 a2 a3 a4 a5 a6 k, LeO (shutterlaw15_MoveAlone.f k a0 a1 a2 a3 a4 a5 a6) (shutterlaw15_MoveAlone.f (k + 1) a0 a1 a2 a3 a4 a5 a6) := by
 intro a0 a1 a2 a3 a4 a5 a6 k
 have ih0 := shutterlaw15_MoveAlone.mono_l k
 unfold shutterlaw15_MoveAlone.f
 repeat' first
   | (with_reducible exact ih0 _ _ _ _ _ _ _ _ _ _ _ _ _ _ _)
   | (with_reducible exact move_Do.mono _ _ _ _ _ _ _ _)
   | (with_reducible exact shutterlaw15_awake.mono _)
   | (with_reducible exact shutterref10_Few.mono _ _ _ _ _ _ _)
   | (with_reducible exact shutterref10_Right.mono _ _ _ _ _ _ _)
   | (with_reducible exact shutterref10_Same.mono _ _ _ _ _ _ _ _ _ _ _ _ _)
   | (with_reducible exact shutterref11_Next.mono _ _ _ _ _ _ _ _)
   | (with_reducible exact shutterref11_Open.mono _ _ _ _ _ _ _ _)
   | (with_reducible exact LeO.refl _)
   | (with_reducible exact LeO.none _)
   | (with_reducible refine LeO.ite ?_ ?_)
   | (with_reducible refine LeO.bind ?_ (fun _ => ?_))
   | exact ih0 _ _ _ _ _ _ _ _ _ _ _ _ _ _ _
   | exact move_Do.mono _ _ _ _ _ _ _ _
   | exact shutterlaw15_awake.mono _
   | exact shutterref10_Few.mono _ _ _ _ _ _ _
   | exact shutterref10_Right.mono _ _ _ _ _ _ _
   | exact shutterref10_Same.mono _ _ _ _ _ _ _ _ _ _ _ _ _
   | exact shutterref11_Next.mono _ _ _ _ _ _ _ _
   | exact shutterref11_Open.mono _ _ _ _ _ _ _ _
   | exact LeO.none _
   | refine LeO.ite ?_ ?_
   | refine LeO.bind ?_ (fun _ => ?_)
def shutterlaw15_MoveAlone.T7 : Bool × List (List Nat × List Nat) := (true, [([], []), ([], []), ([0, 1], [0, 1]), ([2], [2]), ([3, 2], [3]), ([4], [4]), ([5, 4, 4], [4, 5]), ([6, 4], [4, 6]), ([4, 7], [4, 7]), ([8, 6], [8]), ([9], [9]), ([10, 9], [9, 10]), ([9], [9]), ([12, 9], [9, 12]), ([11, 13, 9], [9, 11, 13]), ([9, 14], [9, 14]), ([15, 9], [15]), ([16], [16]), ([17, 16], [16, 17]), ([18, 16, 16], [16, 18]), ([19], [19]), ([20, 19], [19, 20]), ([19], [19]), ([22, 19], [19, 22]), ([21, 23, 19], [19, 21, 23]), ([19, 24, 16], [16, 19, 24]), ([16, 25], [16, 25])])
def shutterlaw15_MoveAlone.B7 : List Nat := [0, 0, 3, 7, 15, 31, 63, 127, 255, 511, 1023, 2047, 1023, 5119, 16383, 32767, 65535, 131071, 262143, 524287, 1048575, 2097151, 1048575, 5242879, 16777215, 33554431, 67108863]
theorem shutterlaw15_MoveAlone.tab7 : rtab .any (opsOf Tryd.f4 7) = shutterlaw15_MoveAlone.T7 := by kernel_rfl
theorem shutterlaw15_MoveAlone.bits7 : waitsOk shutterlaw15_MoveAlone.T7.2 shutterlaw15_MoveAlone.B7 = true := by kernel_rfl
set_option maxHeartbeats 8000000 in
set_option maxRecDepth 100000 in
theorem shutterlaw15_MoveAlone.calls (k : Nat) (a0_0 : Int) (a0_1 : Int) (A0_2 : Option Addr) (c0_2 : Nat) (l0_2 : List (S44)) (a0_3 : Int) (a0_4 : Bool) (a0_5 : Bool) (a1 : Int) (r : Bool) (w : World) (hr0_2 : Kd.C k44 w A0_2 l0_2.length l0_2) (hc0_2 : l0_2.length ≤ c0_2) (hG : LaidG w) (h : shutterlaw15_MoveAlone.f k a0_0 a0_1 l0_2 a0_3 a0_4 a0_5 a1 = some r) :
  Calls Tryd.prog 4 #[.agg #[.int .i64 a0_0, .int .i64 a0_1, .slice A0_2 l0_2.length c0_2, .int .i64 a0_3, .bool a0_4, .bool a0_5], .int .u8 a1] w fun e w' => e = .returned (.bool r) ∧ Below w.heap.size w w' := by
 have HG := Aside0.mk hG
 clear hG
 have hu24 := Tryd.underlying24
 have hu28 := Tryd.underlying28
 have hu47 := Tryd.underlying47
 have HR0_2 := Aside0.mk hr0_2
 have HC0_2 := Aside0.mk hc0_2
 clear hr0_2 hc0_2
 have HB := Aside0.mk (Below.refl w.heap.size w)
 have H : ((shutterlaw15_awake.f k).bind fun t290 => (if t290 = true then ((shutterref10_Few.f k a0_0 a0_1 l0_2 a0_3 a0_4 a0_5).bind fun t291 => (if t291 = true then ((move_Do.f k a0_0 a0_1 l0_2 a0_3 a0_4 a0_5 (wrap64 (2 + (wrap64 (Int.tmod a1 8))))).bind fun bt293 => ((shutterref10_Same.f k bt293.1 bt293.2.1 bt293.2.2.1 a0_3 bt293.2.2.2.2.1 bt293.2.2.2.2.2.1 a0_0 a0_1 l0_2 a0_3 a0_4 a0_5).bind fun t304 => (if t304 = true then ((shutterref10_Right.f k bt293.1 bt293.2.1 bt293.2.2.1 bt293.2.2.2.1 bt293.2.2.2.2.1 bt293.2.2.2.2.2.1).bind fun t305 => (if t305 = true then (if bt293.2.2.2.2.2.2.isNone = true then (if (false != a0_4) = true then (none) else (shutterlaw15_MoveAlone.j0 k (wrap64 (2 + (wrap64 (Int.tmod a1 8)))) none false a0_0 a0_1 l0_2 a0_3 a0_4 a0_5 bt293.1 bt293.2.1 bt293.2.2.1 bt293.2.2.2.1 bt293.2.2.2.2.1 bt293.2.2.2.2.2.1)) else (if (true != a0_4) = true then (none) else (shutterlaw15_MoveAlone.j0 k (wrap64 (2 + (wrap64 (Int.tmod a1 8)))) (some (bt293.2.2.2.2.2.2.getD 0)) (bt293.2.2.2.1 != a0_3) a0_0 a0_1 l0_2 a0_3 a0_4 a0_5 bt293.1 bt293.2.1 bt293.2.2.1 bt293.2.2.2.1 bt293.2.2.2.2.1 bt293.2.2.2.2.2.1))) else (none))) else (none)))) else ((shutterlaw15_awake.f k).bind fun t292 => (some t292)))) else (none))) = some r := h
 clear h
 replace H := Option.bind_eq_some_iff.mp H
 obtain ⟨t290, A30, H⟩ := H
 replace H : (if t290 = true then ((shutterref10_Few.f k a0_0 a0_1 l0_2 a0_3 a0_4 a0_5).bind fun t291 => (if t291 = true then ((move_Do.f k a0_0 a0_1 l0_2 a0_3 a0_4 a0_5 (wrap64 (2 + (wrap64 (Int.tmod a1 8))))).bind fun bt293 => ((shutterref10_Same.f k bt293.1 bt293.2.1 bt293.2.2.1 a0_3 bt293.2.2.2.2.1 bt293.2.2.2.2.2.1 a0_0 a0_1 l0_2 a0_3 a0_4 a0_5).bind fun t304 => (if t304 = true then ((shutterref10_Right.f k bt293.1 bt293.2.1 bt293.2.2.1 bt293.2.2.2.1 bt293.2.2.2.2.1 bt293.2.2.2.2.2.1).bind fun t305 => (if t305 = true then (if bt293.2.2.2.2.2.2.isNone = true then (if (false != a0_4) = true then (none) else (shutterlaw15_MoveAlone.j0 k (wrap64 (2 + (wrap64 (Int.tmod a1 8)))) none false a0_0 a0_1 l0_2 a0_3 a0_4 a0_5 bt293.1 bt293.2.1 bt293.2.2.1 bt293.2.2.2.1 bt293.2.2.2.2.1 bt293.2.2.2.2.2.1)) else (if (true != a0_4) = true then (none) else (shutterlaw15_MoveAlone.j0 k (wrap64 (2 + (wrap64 (Int.tmod a1 8)))) (some (bt293.2.2.2.2.2.2.getD 0)) (bt293.2.2.2.1 != a0_3) a0_0 a0_1 l0_2 a0_3 a0_4 a0_5 bt293.1 bt293.2.1 bt293.2.2.1 bt293.2.2.2.1 bt293.2.2.2.2.1 bt293.2.2.2.2.2.1))) else (none))) else (none)))) else ((shutterlaw15_awake.f k).bind fun t292 => (some t292)))) else (none)) = some r := H
 have A3 := Aside0.mk A30
 clear A30
 by_cases c4 : t290 = true
 ·subst c4
  have H1 : ((shutterref10_Few.f k a0_0 a0_1 l0_2 a0_3 a0_4 a0_5).bind fun t291 => (if t291 = true then ((move_Do.f k a0_0 a0_1 l0_2 a0_3 a0_4 a0_5 (wrap64 (2 + (wrap64 (Int.tmod a1 8))))).bind fun bt293 => ((shutterref10_Same.f k bt293.1 bt293.2.1 bt293.2.2.1 a0_3 bt293.2.2.2.2.1 bt293.2.2.2.2.2.1 a0_0 a0_1 l0_2 a0_3 a0_4 a0_5).bind fun t304 => (if t304 = true then ((shutterref10_Right.f k bt293.1 bt293.2.1 bt293.2.2.1 bt293.2.2.2.1 bt293.2.2.2.2.1 bt293.2.2.2.2.2.1).bind fun t305 => (if t305 = true then (if bt293.2.2.2.2.2.2.isNone = true then (if (false != a0_4) = true then (none) else (shutterlaw15_MoveAlone.j0 k (wrap64 (2 + (wrap64 (Int.tmod a1 8)))) none false a0_0 a0_1 l0_2 a0_3 a0_4 a0_5 bt293.1 bt293.2.1 bt293.2.2.1 bt293.2.2.2.1 bt293.2.2.2.2.1 bt293.2.2.2.2.2.1)) else (if (true != a0_4) = true then (none) else (shutterlaw15_MoveAlone.j0 k (wrap64 (2 + (wrap64 (Int.tmod a1 8)))) (some (bt293.2.2.2.2.2.2.getD 0)) (bt293.2.2.2.1 != a0_3) a0_0 a0_1 l0_2 a0_3 a0_4 a0_5 bt293.1 bt293.2.1 bt293.2.2.1 bt293.2.2.2.1 bt293.2.2.2.2.1 bt293.2.2.2.2.2.1))) else (none))) else (none)))) else ((shutterlaw15_awake.f k).bind fun t292 => (some t292)))) = some r := by rw [if_pos rfl] at H; exact H
  clear H
  have H := H1
  clear H1
  replace H := Option.bind_eq_some_iff.mp H
  obtain ⟨t291, A50, H⟩ := H
  replace H : (if t291 = true then ((move_Do.f k a0_0 a0_1 l0_2 a0_3 a0_4 a0_5 (wrap64 (2 + (wrap64 (Int.tmod a1 8))))).bind fun bt293 => ((shutterref10_Same.f k bt293.1 bt293.2.1 bt293.2.2.1 a0_3 bt293.2.2.2.2.1 bt293.2.2.2.2.2.1 a0_0 a0_1 l0_2 a0_3 a0_4 a0_5).bind fun t304 => (if t304 = true then ((shutterref10_Right.f k bt293.1 bt293.2.1 bt293.2.2.1 bt293.2.2.2.1 bt293.2.2.2.2.1 bt293.2.2.2.2.2.1).bind fun t305 => (if t305 = true then (if bt293.2.2.2.2.2.2.isNone = true then (if (false != a0_4) = true then (none) else (shutterlaw15_MoveAlone.j0 k (wrap64 (2 + (wrap64 (Int.tmod a1 8)))) none false a0_0 a0_1 l0_2 a0_3 a0_4 a0_5 bt293.1 bt293.2.1 bt293.2.2.1 bt293.2.2.2.1 bt293.2.2.2.2.1 bt293.2.2.2.2.2.1)) else (if (true != a0_4) = true then (none) else (shutterlaw15_MoveAlone.j0 k (wrap64 (2 + (wrap64 (Int.tmod a1 8)))) (some (bt293.2.2.2.2.2.2.getD 0)) (bt293.2.2.2.1 != a0_3) a0_0 a0_1 l0_2 a0_3 a0_4 a0_5 bt293.1 bt293.2.1 bt293.2.2.1 bt293.2.2.2.1 bt293.2.2.2.2.1 bt293.2.2.2.2.2.1))) else (none))) else (none)))) else ((shutterlaw15_awake.f k).bind fun t292 => (some t292))) = some r := H
  have A5 := Aside0.mk A50
  clear A50
  by_cases c6 : t291 = true
  ·subst c6
   have H1 : ((move_Do.f k a0_0 a0_1 l0_2 a0_3 a0_4 a0_5 (wrap64 (2 + (wrap64 (Int.tmod a1 8))))).bind fun bt293 => ((shutterref10_Same.f k bt293.1 bt293.2.1 bt293.2.2.1 a0_3 bt293.2.2.2.2.1 bt293.2.2.2.2.2.1 a0_0 a0_1 l0_2 a0_3 a0_4 a0_5).bind fun t304 => (if t304 = true then ((shutterref10_Right.f k bt293.1 bt293.2.1 bt293.2.2.1 bt293.2.2.2.1 bt293.2.2.2.2.1 bt293.2.2.2.2.2.1).bind fun t305 => (if t305 = true then (if bt293.2.2.2.2.2.2.isNone = true then (if (false != a0_4) = true then (none) else (shutterlaw15_MoveAlone.j0 k (wrap64 (2 + (wrap64 (Int.tmod a1 8)))) none false a0_0 a0_1 l0_2 a0_3 a0_4 a0_5 bt293.1 bt293.2.1 bt293.2.2.1 bt293.2.2.2.1 bt293.2.2.2.2.1 bt293.2.2.2.2.2.1)) else (if (true != a0_4) = true then (none) else (shutterlaw15_MoveAlone.j0 k (wrap64 (2 + (wrap64 (Int.tmod a1 8)))) (some (bt293.2.2.2.2.2.2.getD 0)) (bt293.2.2.2.1 != a0_3) a0_0 a0_1 l0_2 a0_3 a0_4 a0_5 bt293.1 bt293.2.1 bt293.2.2.1 bt293.2.2.2.1 bt293.2.2.2.2.1 bt293.2.2.2.2.2.1))) else (none))) else (none)))) = some r := by rw [if_pos rfl] at H; exact H
   clear H
   have H := H1
   clear H1
   replace H := Option.bind_eq_some_iff.mp H
   obtain ⟨⟨t293, t294, t295, t298, t299, t300, t301⟩, A70, H⟩ := H
   replace H : ((shutterref10_Same.f k t293 t294 t295 a0_3 t299 t300 a0_0 a0_1 l0_2 a0_3 a0_4 a0_5).bind fun t304 => (if t304 = true then ((shutterref10_Right.f k t293 t294 t295 t298 t299 t300).bind fun t305 => (if t305 = true then (if t301.isNone = true then (if (false != a0_4) = true then (none) else (shutterlaw15_MoveAlone.j0 k (wrap64 (2 + (wrap64 (Int.tmod a1 8)))) none false a0_0 a0_1 l0_2 a0_3 a0_4 a0_5 t293 t294 t295 t298 t299 t300)) else (if (true != a0_4) = true then (none) else (shutterlaw15_MoveAlone.j0 k (wrap64 (2 + (wrap64 (Int.tmod a1 8)))) (some (t301.getD 0)) (t298 != a0_3) a0_0 a0_1 l0_2 a0_3 a0_4 a0_5 t293 t294 t295 t298 t299 t300))) else (none))) else (none))) = some r := H
   have A7 := Aside0.mk A70
   clear A70
   have HC8 := Aside0.mk H
   clear H
   go_enter Tryd.func4, Tryd.ntmps4
   go_upto_region 7 with (first | ((with_reducible refine gate_dst (N := 2) rfl ?_); refine box_event ?hg (N := 2) ?hd (cs := #[.int .i64 a0_0, .int .i64 a0_1, .slice A0_2 l0_2.length c0_2, .int .i64 a0_3, .bool a0_4, .bool a0_5]) (t := 24) ?hr ?_; (case hd => rfl); (case hg => rfl); (case hr => first | (go_simp; done) | (go_simp; rfl)); intro gb289 hg w9 hbox hb; have n0_ := Aside0.mk (below_step bl_ hb); have n1_ := Aside0.mk (hbox); have n2_ := Aside0.mk ((le_new hg (below_size bl_) : w.heap.size ≤ gb289)); have n3_ := Aside0.mk ((le_new hg (below_size bl_) : w.heap.size ≤ gb289)); clear HB; have HB := n0_; have BK289 := n1_; have GW289 := n2_; have GE289 := n3_; clear n0_ n1_ n2_ n3_; clear hb hbox hg) | ((with_reducible refine gate_callee (f := 8) rfl ?_); refine goesL_ (some 9) rfl rfl Tryd.func8 (by kernel_rfl) rfl #[] rfl ag_ ?_; (with_reducible refine (shutterlaw15_awake.calls k  true _ ?sideG A3.out).mono ?_); (case sideG => exact laidG_below HG.out bl_ rfl); rintro e w10 ⟨rfl, hb⟩; refine ⟨_, rfl, ?_⟩; have n0_ := Aside0.mk (blk_below (g := gb289) (o := .cells #[.int .i64 a0_0, .int .i64 a0_1, .slice A0_2 l0_2.length c0_2, .int .i64 a0_3, .bool a0_4, .bool a0_5] 24 (0, 0)) (by (with_reducible repeat apply pK); exact BK289.out) hb); have n1_ := Aside0.mk (below_step bl_ hb); clear BK289; clear HB; have BK289 := n0_; have HB := n1_; clear n0_ n1_; (try clear hb); (try clear hb2); (try clear hk); (try clear hi); obtain ⟨hcz11_0, hcz11_1, hcz11_2, hcz11_3, hcz11_4, hcz11_5, hfz11_0, hfz11_1, hfz11_2, hfz11_3, hfz11_4, hfz11_5⟩ := cells6 (show w10.heap[gb289]? = some (.cells #[.int .i64 a0_0, .int .i64 a0_1, .slice A0_2 l0_2.length c0_2, .int .i64 a0_3, .bool a0_4, .bool a0_5] _ (0, 0)) from BK289.out)) | (go_at_call 9; (with_reducible refine (shutterref10_Few.calls k a0_0 a0_1 _ _ l0_2 a0_3 a0_4 a0_5 true _ ?side1 ?side2 A5.out).mono ?_); (case side1 => repeat (first | exact (Kd.C_below HR0_2.out HB.out) | (with_reducible apply pC))); (case side2 => exact HC0_2.out); rintro e w12 ⟨rfl, hb⟩; have n0_ := Aside0.mk (blk_below (g := gb289) (o := .cells #[.int .i64 a0_0, .int .i64 a0_1, .slice A0_2 l0_2.length c0_2, .int .i64 a0_3, .bool a0_4, .bool a0_5] 24 (0, 0)) (by (with_reducible repeat apply pK); exact BK289.out) hb); have n1_ := Aside0.mk (below_step bl_ hb); clear BK289; clear HB; have BK289 := n0_; have HB := n1_; clear n0_ n1_; (try clear hb); (try clear hb2); (try clear hk); (try clear hi); obtain ⟨hcz13_0, hcz13_1, hcz13_2, hcz13_3, hcz13_4, hcz13_5, hfz13_0, hfz13_1, hfz13_2, hfz13_3, hfz13_4, hfz13_5⟩ := cells6 (show w12.heap[gb289]? = some (.cells #[.int .i64 a0_0, .int .i64 a0_1, .slice A0_2 l0_2.length c0_2, .int .i64 a0_3, .bool a0_4, .bool a0_5] _ (0, 0)) from BK289.out)) | ((with_reducible refine gate_callee (f := 10) rfl ?_); refine goesL_ (some 24) rfl rfl Tryd.func10 (by kernel_rfl) rfl #[.agg #[.int .i64 a0_0, .int .i64 a0_1, .slice A0_2 l0_2.length c0_2, .int .i64 a0_3, .bool a0_4, .bool a0_5], .int .i64 (wrap64 (2 + (wrap64 (Int.tmod a1 8))))] rfl ag_ ?_; (with_reducible refine (move_Do.calls k a0_0 a0_1 (fun k_ => k_ < w.heap.size) _ _ l0_2 a0_3 a0_4 a0_5 (wrap64 (2 + (wrap64 (Int.tmod a1 8)))) t293 t294 t295 t298 t299 t300 t301 _ ?side1 A7.out).mono ?_); (case side1 => exact Kd.V_mk HC0_2.out (Kd.F_below (Kd.C_F k44_heap HR0_2.out) bl_)); rintro e w14 ⟨v296, rfl, ho0, hb⟩; refine ⟨_, rfl, ?_⟩; have n0_ := Aside0.mk (Kd.V_lower (Kd.V_mono (ok' := fun k_ => k_ ≠ gb289) ho0 (fun k_ hk_ => Or.elim hk_ (fun hs_ => fun e_ => Nat.not_le.2 hs_ (by rw [e_]; exact GW289.out)) (fun hn_ => (Kd.freshB (g := gb289) (o := .cells #[.int .i64 a0_0, .int .i64 a0_1, .slice A0_2 l0_2.length c0_2, .int .i64 a0_3, .bool a0_4, .bool a0_5] 24 (0, 0)) (by (with_reducible repeat apply pK); exact BK289.out) k_ hn_)))) (below_size bl_)); have n1_ := Aside0.mk (blk_below (g := gb289) (o := .cells #[.int .i64 a0_0, .int .i64 a0_1, .slice A0_2 l0_2.length c0_2, .int .i64 a0_3, .bool a0_4, .bool a0_5] 24 (0, 0)) (by (with_reducible repeat apply pK); exact BK289.out) hb); have n2_ := Aside0.mk (below_step bl_ hb); clear BK289; clear HB; have HO297 := n0_; have BK289 := n1_; have HB := n2_; clear n0_ n1_ n2_; (try clear hb); (try clear hb2); (try clear hk); (try clear hi); (try clear ho0); (try simp only [errW_none, errW_some])) | ((with_reducible refine gate_dst (N := 6) rfl ?_); refine box_event ?hg (N := 6) ?hd (cs := #[.int .i64 0, .int .i64 0, .slice none 0 0, .int .i64 0, .bool false, .bool false]) (t := 24) ?hr ?_; (case hd => rfl); (case hg => rfl); (case hr => first | (go_simp; done) | (go_simp; rfl)); intro gb302 hg w15 hbox hb; have n0_ := Aside0.mk (Kd.V_below (Kd.V_elderB (by (with_reducible repeat apply pV); exact HO297.out) gb302 (Nat.le_of_eq hg.symm)) hb); have n1_ := Aside0.mk (blk_below (g := gb289) (o := .cells #[.int .i64 a0_0, .int .i64 a0_1, .slice A0_2 l0_2.length c0_2, .int .i64 a0_3, .bool a0_4, .bool a0_5] 24 (0, 0)) (by (with_reducible repeat apply pK); exact BK289.out) hb); have n2_ := Aside0.mk (below_step bl_ hb); have n3_ := Aside0.mk (hbox); have n4_ := Aside0.mk ((le_new hg (below_size bl_) : w.heap.size ≤ gb302)); have n5_ := Aside0.mk ((le_new hg (below_size bl_) : w.heap.size ≤ gb302)); have n6_ := Aside0.mk ((by rw [hg]; exact Nat.ne_of_lt (blk_lt (g := gb289) (o := .cells #[.int .i64 a0_0, .int .i64 a0_1, .slice A0_2 l0_2.length c0_2, .int .i64 a0_3, .bool a0_4, .bool a0_5] 24 (0, 0)) (by (with_reducible repeat apply pK); exact BK289.out)) : gb289 ≠ gb302)); have n7_ := Aside0.mk ((by rw [hg]; exact Nat.ne_of_gt (blk_lt (g := gb289) (o := .cells #[.int .i64 a0_0, .int .i64 a0_1, .slice A0_2 l0_2.length c0_2, .int .i64 a0_3, .bool a0_4, .bool a0_5] 24 (0, 0)) (by (with_reducible repeat apply pK); exact BK289.out)) : gb302 ≠ gb289)); clear HO297; clear BK289; clear HB; have HO297 := n0_; have BK289 := n1_; have HB := n2_; have BK302 := n3_; have GW302 := n4_; have GE302 := n5_; have NB289_302 := n6_; have NB302_289 := n7_; clear n0_ n1_ n2_ n3_ n4_ n5_ n6_ n7_; clear hb hbox hg; have hnb16 := NB302_289.out; have hnc16 := NB289_302.out; obtain ⟨hcz17_0, hcz17_1, hcz17_2, hcz17_3, hcz17_4, hcz17_5, hfz17_0, hfz17_1, hfz17_2, hfz17_3, hfz17_4, hfz17_5⟩ := cells6 (show w15.heap[gb302]? = some (.cells #[.int .i64 0, .int .i64 0, .slice none 0 0, .int .i64 0, .bool false, .bool false] _ (0, 0)) from BK302.out); obtain ⟨Ao18, co18, eo18⟩ := Kd.V_slice HO297.out; subst eo18) | ((with_reducible refine gate_dst (N := 8) rfl ?_); refine box_event ?hg (N := 8) ?hd (cs := #[.int .i64 0, .int .i64 0, .slice none 0 0, .int .i64 0, .bool false, .bool false]) (t := 24) ?hr ?_; (case hd => rfl); (case hg => rfl); (case hr => first | (go_simp; done) | (go_simp; rfl)); intro gb303 hg w19 hbox hb; have n0_ := Aside0.mk (Kd.V_below (Kd.V_elderB (by (with_reducible repeat apply pV); exact (Kd.V_mono (Kd.V_far (p := ⟨gb302, 5, none⟩) (Kd.V_far (p := ⟨gb302, 4, none⟩) (Kd.V_far (p := ⟨gb302, 3, none⟩) (Kd.V_far (p := ⟨gb302, 2, none⟩) (Kd.V_far (p := ⟨gb302, 1, none⟩) (Kd.V_far (p := ⟨gb302, 0, none⟩) (Kd.V_mono HO297.out (fun k_ hk => (⟨hk, hk.2⟩ : _ ∧ k_ ≠ gb302))) (fun _ hk => hk.2) (.int .i64 t293)) (fun _ hk => hk.2) (.int .i64 t294)) (fun _ hk => hk.2) (.slice Ao18 t295.length co18)) (fun _ hk => hk.2) (.int .i64 t298)) (fun _ hk => hk.2) (.bool t299)) (fun _ hk => hk.2) (.bool t300)) (fun _ h_ => h_.1))) gb303 (Nat.le_of_eq hg.symm)) hb); have n1_ := Aside0.mk (blk_below (g := gb289) (o := .cells #[.int .i64 a0_0, .int .i64 a0_1, .slice A0_2 l0_2.length c0_2, .int .i64 a0_3, .bool a0_4, .bool a0_5] 24 (0, 0)) (by (with_reducible repeat apply pK); refine blk_far ?_ NB289_302.out _; (with_reducible repeat apply pK); refine blk_far ?_ NB289_302.out _; (with_reducible repeat apply pK); refine blk_far ?_ NB289_302.out _; (with_reducible repeat apply pK); refine blk_far ?_ NB289_302.out _; (with_reducible repeat apply pK); refine blk_far ?_ NB289_302.out _; (with_reducible repeat apply pK); refine blk_far ?_ NB289_302.out _; (with_reducible repeat apply pK); exact BK289.out) hb); have n2_ := Aside0.mk (blk_below (g := gb302) (o := .cells #[.int .i64 t293, .int .i64 t294, .slice Ao18 t295.length co18, .int .i64 t298, .bool t299, .bool t300] 24 (0, 0)) (by (with_reducible repeat apply pK); refine blk_put (cs := #[.int .i64 t293, .int .i64 t294, .slice Ao18 t295.length co18, .int .i64 t298, .bool t299, .bool false]) ?_ 5 _ rfl; (with_reducible repeat apply pK); refine blk_put (cs := #[.int .i64 t293, .int .i64 t294, .slice Ao18 t295.length co18, .int .i64 t298, .bool false, .bool false]) ?_ 4 _ rfl; (with_reducible repeat apply pK); refine blk_put (cs := #[.int .i64 t293, .int .i64 t294, .slice Ao18 t295.length co18, .int .i64 0, .bool false, .bool false]) ?_ 3 _ rfl; (with_reducible repeat apply pK); refine blk_put (cs := #[.int .i64 t293, .int .i64 t294, .slice none 0 0, .int .i64 0, .bool false, .bool false]) ?_ 2 _ rfl; (with_reducible repeat apply pK); refine blk_put (cs := #[.int .i64 t293, .int .i64 0, .slice none 0 0, .int .i64 0, .bool false, .bool false]) ?_ 1 _ rfl; (with_reducible repeat apply pK); refine blk_put (cs := #[.int .i64 0, .int .i64 0, .slice none 0 0, .int .i64 0, .bool false, .bool false]) ?_ 0 _ rfl; (with_reducible repeat apply pK); exact BK302.out) hb); have n3_ := Aside0.mk (below_step bl_ hb); have n4_ := Aside0.mk (hbox); have n5_ := Aside0.mk ((le_new hg (below_size bl_) : w.heap.size ≤ gb303)); have n6_ := Aside0.mk ((le_new hg (below_size bl_) : w.heap.size ≤ gb303)); have n7_ := Aside0.mk ((by rw [hg]; exact Nat.ne_of_lt (blk_lt (g := gb289) (o := .cells #[.int .i64 a0_0, .int .i64 a0_1, .slice A0_2 l0_2.length c0_2, .int .i64 a0_3, .bool a0_4, .bool a0_5] 24 (0, 0)) (by (with_reducible repeat apply pK); refine blk_far ?_ NB289_302.out _; (with_reducible repeat apply pK); refine blk_far ?_ NB289_302.out _; (with_reducible repeat apply pK); refine blk_far ?_ NB289_302.out _; (with_reducible repeat apply pK); refine blk_far ?_ NB289_302.out _; (with_reducible repeat apply pK); refine blk_far ?_ NB289_302.out _; (with_reducible repeat apply pK); refine blk_far ?_ NB289_302.out _; (with_reducible repeat apply pK); exact BK289.out)) : gb289 ≠ gb303)); have n8_ := Aside0.mk ((by rw [hg]; exact Nat.ne_of_gt (blk_lt (g := gb289) (o := .cells #[.int .i64 a0_0, .int .i64 a0_1, .slice A0_2 l0_2.length c0_2, .int .i64 a0_3, .bool a0_4, .bool a0_5] 24 (0, 0)) (by (with_reducible repeat apply pK); refine blk_far ?_ NB289_302.out _; (with_reducible repeat apply pK); refine blk_far ?_ NB289_302.out _; (with_reducible repeat apply pK); refine blk_far ?_ NB289_302.out _; (with_reducible repeat apply pK); refine blk_far ?_ NB289_302.out _; (with_reducible repeat apply pK); refine blk_far ?_ NB289_302.out _; (with_reducible repeat apply pK); refine blk_far ?_ NB289_302.out _; (with_reducible repeat apply pK); exact BK289.out)) : gb303 ≠ gb289)); have n9_ := Aside0.mk ((by rw [hg]; exact Nat.ne_of_lt (blk_lt (g := gb302) (o := .cells #[.int .i64 t293, .int .i64 t294, .slice Ao18 t295.length co18, .int .i64 t298, .bool t299, .bool t300] 24 (0, 0)) (by (with_reducible repeat apply pK); refine blk_put (cs := #[.int .i64 t293, .int .i64 t294, .slice Ao18 t295.length co18, .int .i64 t298, .bool t299, .bool false]) ?_ 5 _ rfl; (with_reducible repeat apply pK); refine blk_put (cs := #[.int .i64 t293, .int .i64 t294, .slice Ao18 t295.length co18, .int .i64 t298, .bool false, .bool false]) ?_ 4 _ rfl; (with_reducible repeat apply pK); refine blk_put (cs := #[.int .i64 t293, .int .i64 t294, .slice Ao18 t295.length co18, .int .i64 0, .bool false, .bool false]) ?_ 3 _ rfl; (with_reducible repeat apply pK); refine blk_put (cs := #[.int .i64 t293, .int .i64 t294, .slice none 0 0, .int .i64 0, .bool false, .bool false]) ?_ 2 _ rfl; (with_reducible repeat apply pK); refine blk_put (cs := #[.int .i64 t293, .int .i64 0, .slice none 0 0, .int .i64 0, .bool false, .bool false]) ?_ 1 _ rfl; (with_reducible repeat apply pK); refine blk_put (cs := #[.int .i64 0, .int .i64 0, .slice none 0 0, .int .i64 0, .bool false, .bool false]) ?_ 0 _ rfl; (with_reducible repeat apply pK); exact BK302.out)) : gb302 ≠ gb303)); have n10_ := Aside0.mk ((by rw [hg]; exact Nat.ne_of_gt (blk_lt (g := gb302) (o := .cells #[.int .i64 t293, .int .i64 t294, .slice Ao18 t295.length co18, .int .i64 t298, .bool t299, .bool t300] 24 (0, 0)) (by (with_reducible repeat apply pK); refine blk_put (cs := #[.int .i64 t293, .int .i64 t294, .slice Ao18 t295.length co18, .int .i64 t298, .bool t299, .bool false]) ?_ 5 _ rfl; (with_reducible repeat apply pK); refine blk_put (cs := #[.int .i64 t293, .int .i64 t294, .slice Ao18 t295.length co18, .int .i64 t298, .bool false, .bool false]) ?_ 4 _ rfl; (with_reducible repeat apply pK); refine blk_put (cs := #[.int .i64 t293, .int .i64 t294, .slice Ao18 t295.length co18, .int .i64 0, .bool false, .bool false]) ?_ 3 _ rfl; (with_reducible repeat apply pK); refine blk_put (cs := #[.int .i64 t293, .int .i64 t294, .slice none 0 0, .int .i64 0, .bool false, .bool false]) ?_ 2 _ rfl; (with_reducible repeat apply pK); refine blk_put (cs := #[.int .i64 t293, .int .i64 0, .slice none 0 0, .int .i64 0, .bool false, .bool false]) ?_ 1 _ rfl; (with_reducible repeat apply pK); refine blk_put (cs := #[.int .i64 0, .int .i64 0, .slice none 0 0, .int .i64 0, .bool false, .bool false]) ?_ 0 _ rfl; (with_reducible repeat apply pK); exact BK302.out)) : gb303 ≠ gb302)); clear HO297; clear BK289; clear BK302; clear HB; have HO297 := n0_; have BK289 := n1_; have BK302 := n2_; have HB := n3_; have BK303 := n4_; have GW303 := n5_; have GE303 := n6_; have NB289_303 := n7_; have NB303_289 := n8_; have NB302_303 := n9_; have NB303_302 := n10_; clear n0_ n1_ n2_ n3_ n4_ n5_ n6_ n7_ n8_ n9_ n10_; clear hb hbox hg; have hnb20 := NB303_289.out; have hnc20 := NB289_303.out; have hnb21 := NB303_302.out; have hnc21 := NB302_303.out; obtain ⟨hcz22_0, hcz22_1, hcz22_2, hcz22_3, hcz22_4, hcz22_5, hfz22_0, hfz22_1, hfz22_2, hfz22_3, hfz22_4, hfz22_5⟩ := cells6 (show w19.heap[gb303]? = some (.cells #[.int .i64 0, .int .i64 0, .slice none 0 0, .int .i64 0, .bool false, .bool false] _ (0, 0)) from BK303.out); obtain ⟨hcz23_0, hcz23_1, hcz23_2, hcz23_3, hcz23_4, hcz23_5, hfz23_0, hfz23_1, hfz23_2, hfz23_3, hfz23_4, hfz23_5⟩ := cells6 (show w19.heap[gb289]? = some (.cells #[.int .i64 a0_0, .int .i64 a0_1, .slice A0_2 l0_2.length c0_2, .int .i64 a0_3, .bool a0_4, .bool a0_5] _ (0, 0)) from BK289.out)))
   (try simp only [Act.put, List.setIfInBounds_toArray, List.set_cons_zero, List.set_cons_succ])
   go_cut [57] (fun v57 wc => ∃ (kq : Nat) (x57_7 : Bool), v57 = .bool x57_7 ∧ Aside0 (shutterlaw15_MoveAlone.j0 kq (wrap64 (2 + (wrap64 (Int.tmod a1 8)))) t301 x57_7 a0_0 a0_1 l0_2 a0_3 a0_4 a0_5 t293 t294 t295 t298 t299 t300 = some r) ∧ Aside0 (kq ≤ k) ∧ Aside0 (Kd.V k44 44 wc w.heap.size (fun k_ => k_ ≠ gb289 ∧ k_ ≠ gb302 ∧ k_ ≠ gb303) (.slice Ao18 t295.length co18) t295) ∧ Aside0 (Kd.V k44 44 wc w.heap.size (fun k_ => k_ ≠ gb289 ∧ k_ ≠ gb302 ∧ k_ ≠ gb303) (.slice Ao18 t295.length co18) t295) ∧ Aside0 (wc.heap[gb289]? = some (.cells #[.int .i64 a0_0, .int .i64 a0_1, (.slice A0_2 l0_2.length c0_2), .int .i64 a0_3, .bool a0_4, .bool a0_5] 24 (0, 0))) ∧ Aside0 (wc.heap[gb302]? = some (.cells #[.int .i64 t293, .int .i64 t294, (.slice Ao18 t295.length co18), .int .i64 t298, .bool t299, .bool t300] 24 (0, 0))) ∧ Aside0 (wc.heap[gb303]? = some (.cells #[.int .i64 t293, .int .i64 t294, (.slice Ao18 t295.length co18), .int .i64 a0_3, .bool t299, .bool t300] 24 (0, 0))) ∧ Aside0 (Below w.heap.size w wc))
   case first =>
    have H := HC8.out
    clear HC8
    replace H := Option.bind_eq_some_iff.mp H
    obtain ⟨t304, A240, H⟩ := H
    replace H : (if t304 = true then ((shutterref10_Right.f k t293 t294 t295 t298 t299 t300).bind fun t305 => (if t305 = true then (if t301.isNone = true then (if (false != a0_4) = true then (none) else (shutterlaw15_MoveAlone.j0 k (wrap64 (2 + (wrap64 (Int.tmod a1 8)))) none false a0_0 a0_1 l0_2 a0_3 a0_4 a0_5 t293 t294 t295 t298 t299 t300)) else (if (true != a0_4) = true then (none) else (shutterlaw15_MoveAlone.j0 k (wrap64 (2 + (wrap64 (Int.tmod a1 8)))) (some (t301.getD 0)) (t298 != a0_3) a0_0 a0_1 l0_2 a0_3 a0_4 a0_5 t293 t294 t295 t298 t299 t300))) else (none))) else (none)) = some r := H
    have A24 := Aside0.mk A240
    clear A240
    by_cases c25 : t304 = true
    ·subst c25
     have H1 : ((shutterref10_Right.f k t293 t294 t295 t298 t299 t300).bind fun t305 => (if t305 = true then (if t301.isNone = true then (if (false != a0_4) = true then (none) else (shutterlaw15_MoveAlone.j0 k (wrap64 (2 + (wrap64 (Int.tmod a1 8)))) none false a0_0 a0_1 l0_2 a0_3 a0_4 a0_5 t293 t294 t295 t298 t299 t300)) else (if (true != a0_4) = true then (none) else (shutterlaw15_MoveAlone.j0 k (wrap64 (2 + (wrap64 (Int.tmod a1 8)))) (some (t301.getD 0)) (t298 != a0_3) a0_0 a0_1 l0_2 a0_3 a0_4 a0_5 t293 t294 t295 t298 t299 t300))) else (none))) = some r := by rw [if_pos rfl] at H; exact H
     clear H
     have H := H1
     clear H1
     replace H := Option.bind_eq_some_iff.mp H
     obtain ⟨t305, A260, H⟩ := H
     replace H : (if t305 = true then (if t301.isNone = true then (if (false != a0_4) = true then (none) else (shutterlaw15_MoveAlone.j0 k (wrap64 (2 + (wrap64 (Int.tmod a1 8)))) none false a0_0 a0_1 l0_2 a0_3 a0_4 a0_5 t293 t294 t295 t298 t299 t300)) else (if (true != a0_4) = true then (none) else (shutterlaw15_MoveAlone.j0 k (wrap64 (2 + (wrap64 (Int.tmod a1 8)))) (some (t301.getD 0)) (t298 != a0_3) a0_0 a0_1 l0_2 a0_3 a0_4 a0_5 t293 t294 t295 t298 t299 t300))) else (none)) = some r := H
     have A26 := Aside0.mk A260
     clear A260
     by_cases c27 : t305 = true
     ·subst c27
      have H1 : (if t301.isNone = true then (if (false != a0_4) = true then (none) else (shutterlaw15_MoveAlone.j0 k (wrap64 (2 + (wrap64 (Int.tmod a1 8)))) none false a0_0 a0_1 l0_2 a0_3 a0_4 a0_5 t293 t294 t295 t298 t299 t300)) else (if (true != a0_4) = true then (none) else (shutterlaw15_MoveAlone.j0 k (wrap64 (2 + (wrap64 (Int.tmod a1 8)))) (some (t301.getD 0)) (t298 != a0_3) a0_0 a0_1 l0_2 a0_3 a0_4 a0_5 t293 t294 t295 t298 t299 t300))) = some r := by rw [if_pos rfl] at H; exact H
      clear H
      have H := H1
      clear H1
      rcases t301 with _ | q306
      ·have H1 : (if (false != a0_4) = true then (none) else (shutterlaw15_MoveAlone.j0 k (wrap64 (2 + (wrap64 (Int.tmod a1 8)))) none false a0_0 a0_1 l0_2 a0_3 a0_4 a0_5 t293 t294 t295 t298 t299 t300)) = some r := by rw [if_pos (show (none : Option Int).isNone = true by rfl)] at H; exact H
       clear H
       have H := H1
       clear H1
       try simp only [errW_none, errW_some]
       by_cases c28 : (false != a0_4) = true
       ·rw [if_pos c28] at H
        exact absurd H (by simp)
       ·rw [if_neg c28] at H
        have c28b0 : (false != a0_4) = false := by simpa using c28
        (try (have c28b1 : decide (false = a0_4) = true := by simpa using c28))
        (try (have c28b2 : (false == a0_4) = true := by simpa using c28))
        clear c28
        (first | rw [c28b0] | (simp only [i64_w, i32_w]; rw [c28b0]) | skip)
        have H' := Aside0.mk H
        clear H
        try go_wp2
        have n0_ : Aside0 (Kd.V k44 44 (((((((w19.setCell ⟨gb303, 0, none⟩ (.int .i64 t293)).setCell ⟨gb303, 1, none⟩ (.int .i64 t294)).setCell ⟨gb303, 2, none⟩ (.slice Ao18 t295.length co18)).setCell ⟨gb303, 3, none⟩ (.int .i64 t298)).setCell ⟨gb303, 4, none⟩ (.bool t299)).setCell ⟨gb303, 5, none⟩ (.bool t300)).setCell ⟨gb303, 3, none⟩ (.int .i64 a0_3)) w.heap.size (fun k_ => k_ ≠ gb289 ∧ k_ ≠ gb302 ∧ k_ ≠ gb303) (.slice Ao18 t295.length co18) t295) := ⟨by (with_reducible repeat apply pV); exact Kd.V_mono (Kd.V_far (p := ⟨gb303, 3, none⟩) (Kd.V_far (p := ⟨gb303, 5, none⟩) (Kd.V_far (p := ⟨gb303, 4, none⟩) (Kd.V_far (p := ⟨gb303, 3, none⟩) (Kd.V_far (p := ⟨gb303, 2, none⟩) (Kd.V_far (p := ⟨gb303, 1, none⟩) (Kd.V_far (p := ⟨gb303, 0, none⟩) (Kd.V_mono HO297.out (fun k_ hk => (⟨hk, hk.2⟩ : _ ∧ k_ ≠ gb303))) (fun _ hk => hk.2) (.int .i64 t293)) (fun _ hk => hk.2) (.int .i64 t294)) (fun _ hk => hk.2) (.slice Ao18 t295.length co18)) (fun _ hk => hk.2) (.int .i64 t298)) (fun _ hk => hk.2) (.bool t299)) (fun _ hk => hk.2) (.bool t300)) (fun _ hk => hk.2) (.int .i64 a0_3)) (fun _ hk => ⟨hk.1.1.1, ⟨hk.1.1.2, hk.1.2⟩⟩)⟩
        have n1_ : Aside0 ((((((((w19.setCell ⟨gb303, 0, none⟩ (.int .i64 t293)).setCell ⟨gb303, 1, none⟩ (.int .i64 t294)).setCell ⟨gb303, 2, none⟩ (.slice Ao18 t295.length co18)).setCell ⟨gb303, 3, none⟩ (.int .i64 t298)).setCell ⟨gb303, 4, none⟩ (.bool t299)).setCell ⟨gb303, 5, none⟩ (.bool t300)).setCell ⟨gb303, 3, none⟩ (.int .i64 a0_3)).heap[gb289]? = some (.cells #[.int .i64 a0_0, .int .i64 a0_1, .slice A0_2 l0_2.length c0_2, .int .i64 a0_3, .bool a0_4, .bool a0_5] 24 (0, 0))) := ⟨by (with_reducible repeat apply pK); refine blk_far ?_ NB289_303.out _; (with_reducible repeat apply pK); refine blk_far ?_ NB289_303.out _; (with_reducible repeat apply pK); refine blk_far ?_ NB289_303.out _; (with_reducible repeat apply pK); refine blk_far ?_ NB289_303.out _; (with_reducible repeat apply pK); refine blk_far ?_ NB289_303.out _; (with_reducible repeat apply pK); refine blk_far ?_ NB289_303.out _; (with_reducible repeat apply pK); refine blk_far ?_ NB289_303.out _; (with_reducible repeat apply pK); exact BK289.out⟩
        have n2_ : Aside0 ((((((((w19.setCell ⟨gb303, 0, none⟩ (.int .i64 t293)).setCell ⟨gb303, 1, none⟩ (.int .i64 t294)).setCell ⟨gb303, 2, none⟩ (.slice Ao18 t295.length co18)).setCell ⟨gb303, 3, none⟩ (.int .i64 t298)).setCell ⟨gb303, 4, none⟩ (.bool t299)).setCell ⟨gb303, 5, none⟩ (.bool t300)).setCell ⟨gb303, 3, none⟩ (.int .i64 a0_3)).heap[gb302]? = some (.cells #[.int .i64 t293, .int .i64 t294, .slice Ao18 t295.length co18, .int .i64 t298, .bool t299, .bool t300] 24 (0, 0))) := ⟨by (with_reducible repeat apply pK); refine blk_far ?_ NB302_303.out _; (with_reducible repeat apply pK); refine blk_far ?_ NB302_303.out _; (with_reducible repeat apply pK); refine blk_far ?_ NB302_303.out _; (with_reducible repeat apply pK); refine blk_far ?_ NB302_303.out _; (with_reducible repeat apply pK); refine blk_far ?_ NB302_303.out _; (with_reducible repeat apply pK); refine blk_far ?_ NB302_303.out _; (with_reducible repeat apply pK); refine blk_far ?_ NB302_303.out _; (with_reducible repeat apply pK); exact BK302.out⟩
        have n3_ : Aside0 ((((((((w19.setCell ⟨gb303, 0, none⟩ (.int .i64 t293)).setCell ⟨gb303, 1, none⟩ (.int .i64 t294)).setCell ⟨gb303, 2, none⟩ (.slice Ao18 t295.length co18)).setCell ⟨gb303, 3, none⟩ (.int .i64 t298)).setCell ⟨gb303, 4, none⟩ (.bool t299)).setCell ⟨gb303, 5, none⟩ (.bool t300)).setCell ⟨gb303, 3, none⟩ (.int .i64 a0_3)).heap[gb303]? = some (.cells #[.int .i64 t293, .int .i64 t294, .slice Ao18 t295.length co18, .int .i64 a0_3, .bool t299, .bool t300] 24 (0, 0))) := ⟨by (with_reducible repeat apply pK); refine blk_put (cs := #[.int .i64 t293, .int .i64 t294, .slice Ao18 t295.length co18, .int .i64 t298, .bool t299, .bool t300]) ?_ 3 _ rfl; (with_reducible repeat apply pK); refine blk_put (cs := #[.int .i64 t293, .int .i64 t294, .slice Ao18 t295.length co18, .int .i64 t298, .bool t299, .bool false]) ?_ 5 _ rfl; (with_reducible repeat apply pK); refine blk_put (cs := #[.int .i64 t293, .int .i64 t294, .slice Ao18 t295.length co18, .int .i64 t298, .bool false, .bool false]) ?_ 4 _ rfl; (with_reducible repeat apply pK); refine blk_put (cs := #[.int .i64 t293, .int .i64 t294, .slice Ao18 t295.length co18, .int .i64 0, .bool false, .bool false]) ?_ 3 _ rfl; (with_reducible repeat apply pK); refine blk_put (cs := #[.int .i64 t293, .int .i64 t294, .slice none 0 0, .int .i64 0, .bool false, .bool false]) ?_ 2 _ rfl; (with_reducible repeat apply pK); refine blk_put (cs := #[.int .i64 t293, .int .i64 0, .slice none 0 0, .int .i64 0, .bool false, .bool false]) ?_ 1 _ rfl; (with_reducible repeat apply pK); refine blk_put (cs := #[.int .i64 0, .int .i64 0, .slice none 0 0, .int .i64 0, .bool false, .bool false]) ?_ 0 _ rfl; (with_reducible repeat apply pK); exact BK303.out⟩
        have n4_ : Aside0 (Below w.heap.size w (((((((w19.setCell ⟨gb303, 0, none⟩ (.int .i64 t293)).setCell ⟨gb303, 1, none⟩ (.int .i64 t294)).setCell ⟨gb303, 2, none⟩ (.slice Ao18 t295.length co18)).setCell ⟨gb303, 3, none⟩ (.int .i64 t298)).setCell ⟨gb303, 4, none⟩ (.bool t299)).setCell ⟨gb303, 5, none⟩ (.bool t300)).setCell ⟨gb303, 3, none⟩ (.int .i64 a0_3))) := ⟨bl_⟩
        (try clear HO297)
        (try clear BK289)
        (try clear BK302)
        (try clear BK303)
        (try clear HB)
        generalize (((((((w19.setCell ⟨gb303, 0, none⟩ (.int .i64 t293)).setCell ⟨gb303, 1, none⟩ (.int .i64 t294)).setCell ⟨gb303, 2, none⟩ (.slice Ao18 t295.length co18)).setCell ⟨gb303, 3, none⟩ (.int .i64 t298)).setCell ⟨gb303, 4, none⟩ (.bool t299)).setCell ⟨gb303, 5, none⟩ (.bool t300)).setCell ⟨gb303, 3, none⟩ (.int .i64 a0_3)) = w29 at n0_ n1_ n2_ n3_ n4_ ⊢
        have HO297 := n0_
        have BK289 := n1_
        have BK302 := n2_
        have BK303 := n3_
        have HB := n4_
        clear n0_ n1_ n2_ n3_ n4_
        have n0_ := Aside0.mk (Kd.V_drew HO297.out)
        have n1_ := Aside0.mk (blk_drew BK289.out)
        have n2_ := Aside0.mk (blk_drew BK302.out)
        have n3_ := Aside0.mk (blk_drew BK303.out)
        have n4_ := Aside0.mk (below_drew1 HB.out)
        clear HO297
        clear BK289
        clear BK302
        clear BK303
        clear HB
        have HO297 := n0_
        have BK289 := n1_
        have BK302 := n2_
        have BK303 := n3_
        have HB := n4_
        clear n0_ n1_ n2_ n3_ n4_
        refine start_ (n := 27) (S := fun w' => w'.cell? ⟨gb303, 0, none⟩ = some (.int .i64 t293) ∧ w'.cell? ⟨gb303, 1, none⟩ = some (.int .i64 t294) ∧ w'.cell? ⟨gb303, 2, none⟩ = some (.slice Ao18 t295.length co18) ∧ w'.cell? ⟨gb303, 3, none⟩ = some (.int .i64 a0_3) ∧ w'.cell? ⟨gb303, 4, none⟩ = some (.bool t299) ∧ w'.cell? ⟨gb303, 5, none⟩ = some (.bool t300) ∧ w'.cell? ⟨gb289, 0, none⟩ = some (.int .i64 a0_0) ∧ w'.cell? ⟨gb289, 1, none⟩ = some (.int .i64 a0_1) ∧ w'.cell? ⟨gb289, 2, none⟩ = some (.slice A0_2 l0_2.length c0_2) ∧ w'.cell? ⟨gb289, 3, none⟩ = some (.int .i64 a0_3) ∧ w'.cell? ⟨gb289, 4, none⟩ = some (.bool a0_4) ∧ w'.cell? ⟨gb289, 5, none⟩ = some (.bool a0_5) ∧ w'.cell? ⟨gb302, 0, none⟩ = some (.int .i64 t293) ∧ w'.cell? ⟨gb302, 1, none⟩ = some (.int .i64 t294) ∧ w'.cell? ⟨gb302, 2, none⟩ = some (.slice Ao18 t295.length co18) ∧ w'.cell? ⟨gb302, 3, none⟩ = some (.int .i64 t298) ∧ w'.cell? ⟨gb302, 4, none⟩ = some (.bool t299) ∧ w'.cell? ⟨gb302, 5, none⟩ = some (.bool t300)) (ds := []) #[false, false, false, false, false, false, false, false, false, false, false, false, false, false, false, false, false, false, false, false, false, false, false, false, false, false, false] (by kernel_rfl) rfl rfl ⟨(blk_cell BK303.out 0).trans rfl, (blk_cell BK303.out 1).trans rfl, (blk_cell BK303.out 2).trans rfl, (blk_cell BK303.out 3).trans rfl, (blk_cell BK303.out 4).trans rfl, (blk_cell BK303.out 5).trans rfl, (blk_cell BK289.out 0).trans rfl, (blk_cell BK289.out 1).trans rfl, (blk_cell BK289.out 2).trans rfl, (blk_cell BK289.out 3).trans rfl, (blk_cell BK289.out 4).trans rfl, (blk_cell BK289.out 5).trans rfl, (blk_cell BK302.out 0).trans rfl, (blk_cell BK302.out 1).trans rfl, (blk_cell BK302.out 2).trans rfl, (blk_cell BK302.out 3).trans rfl, (blk_cell BK302.out 4).trans rfl, (blk_cell BK302.out 5).trans rfl⟩ (fun hHeld => ?_); refine with_tabW shutterlaw15_MoveAlone.tab7 shutterlaw15_MoveAlone.bits7 (fun HT_ HW_ => ?_)
        generalize w29.drew = w30 at HO297 BK289 BK302 BK303 HB hHeld ⊢
        refine take_ (i := 0) (N := some 31) (v := ?_) (a' := ?_) #[true, false, false, false, false, false, false, false, false, false, false, false, false, false, false, false, false, false, false, false, false, false, false, false, false, false, false] rfl rfl (take_ofW HT_.out HW_.out (by kernel_rfl)) (fun _ _ _ h => h) (Or.inl ⟨by rfl, ?_⟩) hHeld ?_ ?_
        rotate_left
        ·rintro w' ⟨s0, s1, s2, s3, s4, s5, s6, s7, s8, s9, s10, s11, s12, s13, s14, s15, s16, s17⟩
         go_simp
         with_reducible rfl
        rotate_left
        ·simp only [Act.put, List.setIfInBounds_toArray, List.set_cons_zero, List.set_cons_succ, i64_w, i32_w]
         rfl
        refine take_ (i := 1) (N := some 32) (v := ?_) (a' := ?_) #[true, true, false, false, false, false, false, false, false, false, false, false, false, false, false, false, false, false, false, false, false, false, false, false, false, false, false] rfl rfl (take_ofW HT_.out HW_.out (by kernel_rfl)) (fun _ _ _ h => h) (Or.inl ⟨by rfl, ?_⟩) hHeld ?_ ?_
        rotate_left
        ·rintro w' ⟨s0, s1, s2, s3, s4, s5, s6, s7, s8, s9, s10, s11, s12, s13, s14, s15, s16, s17⟩
         go_simp
         with_reducible rfl
        rotate_left
        ·simp only [Act.put, List.setIfInBounds_toArray, List.set_cons_zero, List.set_cons_succ, i64_w, i32_w]
         rfl
        refine one_ (i := 2) (N := some 33) #[true, true, true, false, false, false, false, false, false, false, false, false, false, false, false, false, false, false, false, false, false, false, false, false, false, false, false] rfl rfl (one_of HT_.out (by kernel_rfl)) (by decide) (fun K hK => ?_)
        refine goes_ Tryd.func12 (by kernel_rfl) rfl #[.agg #[.int .i64 t293, .int .i64 t294, .slice Ao18 t295.length co18, .int .i64 a0_3, .bool t299, .bool t300], .agg #[.int .i64 a0_0, .int .i64 a0_1, .slice A0_2 l0_2.length c0_2, .int .i64 a0_3, .bool a0_4, .bool a0_5]] (by rfl) rfl rfl ag_ ?_
        with_reducible refine (shutterref10_Same.calls k t293 t294 _ _ t295 a0_3 t299 t300 a0_0 a0_1 _ _ l0_2 a0_3 a0_4 a0_5 true _ ?side1 ?side2 ?side3 ?side4 A24.out).mono ?_
        (case side1 => repeat (first | exact (Kd.V_reads' HO297.out).2.2 | (with_reducible apply pC)))
        (case side2 => exact (Kd.V_reads' HO297.out).2.1)
        (case side3 => repeat (first | exact (Kd.C_below HR0_2.out HB.out) | (with_reducible apply pC)))
        (case side4 => exact HC0_2.out)
        rintro e w31 ⟨rfl, hb⟩
        refine ⟨_, rfl, ?_⟩
        have n0_ := Aside0.mk (Kd.V_below (by (with_reducible repeat apply pV); exact HO297.out) hb)
        have n1_ := Aside0.mk (blk_below (g := gb289) (o := .cells #[.int .i64 a0_0, .int .i64 a0_1, .slice A0_2 l0_2.length c0_2, .int .i64 a0_3, .bool a0_4, .bool a0_5] 24 (0, 0)) (by (with_reducible repeat apply pK); exact BK289.out) hb)
        have n2_ := Aside0.mk (blk_below (g := gb302) (o := .cells #[.int .i64 t293, .int .i64 t294, .slice Ao18 t295.length co18, .int .i64 t298, .bool t299, .bool t300] 24 (0, 0)) (by (with_reducible repeat apply pK); exact BK302.out) hb)
        have n3_ := Aside0.mk (blk_below (g := gb303) (o := .cells #[.int .i64 t293, .int .i64 t294, .slice Ao18 t295.length co18, .int .i64 a0_3, .bool t299, .bool t300] 24 (0, 0)) (by (with_reducible repeat apply pK); exact BK303.out) hb)
        have n4_ := Aside0.mk (below_step bl_ hb)
        clear HO297
        clear BK289
        clear BK302
        clear BK303
        clear HB
        have HO297 := n0_
        have BK289 := n1_
        have BK302 := n2_
        have BK303 := n3_
        have HB := n4_
        clear n0_ n1_ n2_ n3_ n4_
        (try clear hb)
        (try clear hb2)
        (try clear hk)
        (try clear hi)
        refine hK.out _ _ ⟨(blk_cell BK303.out 0).trans rfl, (blk_cell BK303.out 1).trans rfl, (blk_cell BK303.out 2).trans rfl, (blk_cell BK303.out 3).trans rfl, (blk_cell BK303.out 4).trans rfl, (blk_cell BK303.out 5).trans rfl, (blk_cell BK289.out 0).trans rfl, (blk_cell BK289.out 1).trans rfl, (blk_cell BK289.out 2).trans rfl, (blk_cell BK289.out 3).trans rfl, (blk_cell BK289.out 4).trans rfl, (blk_cell BK289.out 5).trans rfl, (blk_cell BK302.out 0).trans rfl, (blk_cell BK302.out 1).trans rfl, (blk_cell BK302.out 2).trans rfl, (blk_cell BK302.out 3).trans rfl, (blk_cell BK302.out 4).trans rfl, (blk_cell BK302.out 5).trans rfl⟩ (fun hHeld => ?_)
        clear hK K
        refine norm_ (a' := ?_) ?_ ?_
        rotate_left
        ·show Act.put _ (some 33) _ = _
         simp only [Act.put, List.setIfInBounds_toArray, List.set_cons_zero, List.set_cons_succ, i64_w, i32_w]
         rfl
        refine pure_ (i := 3) (N := some 34) (v := ?_) (a' := ?_) #[true, true, true, true, false, false, false, false, false, false, false, false, false, false, false, false, false, false, false, false, false, false, false, false, false, false, false] rfl rfl (any_of HT_.out (by kernel_rfl)) (fun _ _ _ h => h) (Or.inl ⟨by rfl, ?_⟩) ?_ ?_
        rotate_left
        ·intro w'
         go_simp
         with_reducible rfl
        rotate_left
        ·simp only [Act.put, List.setIfInBounds_toArray, List.set_cons_zero, List.set_cons_succ, i64_w, i32_w]
         rfl
        refine pure_ (i := 4) (N := some 35) (v := ?_) (a' := ?_) #[true, true, true, true, true, false, false, false, false, false, false, false, false, false, false, false, false, false, false, false, false, false, false, false, false, false, false] rfl rfl (any_of HT_.out (by kernel_rfl)) (fun _ _ _ h => h) (Or.inl ⟨by rfl, ?_⟩) ?_ ?_
        rotate_left
        ·intro w'
         go_simp
         with_reducible rfl
        rotate_left
        ·simp only [Act.put, List.setIfInBounds_toArray, List.set_cons_zero, List.set_cons_succ, i64_w, i32_w]
         rfl
        refine take_ (i := 5) (N := some 36) (v := ?_) (a' := ?_) #[true, true, true, true, true, true, false, false, false, false, false, false, false, false, false, false, false, false, false, false, false, false, false, false, false, false, false] rfl rfl (take_ofW HT_.out HW_.out (by kernel_rfl)) (fun _ _ _ h => h) (Or.inl ⟨by rfl, ?_⟩) hHeld ?_ ?_
        rotate_left
        ·rintro w' ⟨s0, s1, s2, s3, s4, s5, s6, s7, s8, s9, s10, s11, s12, s13, s14, s15, s16, s17⟩
         go_simp
         with_reducible rfl
        rotate_left
        ·simp only [Act.put, List.setIfInBounds_toArray, List.set_cons_zero, List.set_cons_succ, i64_w, i32_w]
         rfl
        refine one_ (i := 6) (N := some 37) #[true, true, true, true, true, true, true, false, false, false, false, false, false, false, false, false, false, false, false, false, false, false, false, false, false, false, false] rfl rfl (one_of HT_.out (by kernel_rfl)) (by decide) (fun K hK => ?_)
        refine goes_ Tryd.func15 (by kernel_rfl) rfl #[.agg #[.int .i64 t293, .int .i64 t294, .slice Ao18 t295.length co18, .int .i64 t298, .bool t299, .bool t300]] (by rfl) rfl rfl ag_ ?_
        with_reducible refine (shutterref10_Right.calls k t293 t294 _ _ t295 t298 t299 t300 true _ ?side1 ?side2 A26.out).mono ?_
        (case side1 => repeat (first | exact (Kd.V_reads' HO297.out).2.2 | (with_reducible apply pC)))
        (case side2 => exact (Kd.V_reads' HO297.out).2.1)
        rintro e w32 ⟨rfl, hb⟩
        refine ⟨_, rfl, ?_⟩
        have n0_ := Aside0.mk (Kd.V_below (by (with_reducible repeat apply pV); exact HO297.out) hb)
        have n1_ := Aside0.mk (blk_below (g := gb289) (o := .cells #[.int .i64 a0_0, .int .i64 a0_1, .slice A0_2 l0_2.length c0_2, .int .i64 a0_3, .bool a0_4, .bool a0_5] 24 (0, 0)) (by (with_reducible repeat apply pK); exact BK289.out) hb)
        have n2_ := Aside0.mk (blk_below (g := gb302) (o := .cells #[.int .i64 t293, .int .i64 t294, .slice Ao18 t295.length co18, .int .i64 t298, .bool t299, .bool t300] 24 (0, 0)) (by (with_reducible repeat apply pK); exact BK302.out) hb)
        have n3_ := Aside0.mk (blk_below (g := gb303) (o := .cells #[.int .i64 t293, .int .i64 t294, .slice Ao18 t295.length co18, .int .i64 a0_3, .bool t299, .bool t300] 24 (0, 0)) (by (with_reducible repeat apply pK); exact BK303.out) hb)
        have n4_ := Aside0.mk (below_step bl_ hb)
        clear HO297
        clear BK289
        clear BK302
        clear BK303
        clear HB
        have HO297 := n0_
        have BK289 := n1_
        have BK302 := n2_
        have BK303 := n3_
        have HB := n4_
        clear n0_ n1_ n2_ n3_ n4_
        (try clear hb)
        (try clear hb2)
        (try clear hk)
        (try clear hi)
        refine hK.out _ _ ⟨(blk_cell BK303.out 0).trans rfl, (blk_cell BK303.out 1).trans rfl, (blk_cell BK303.out 2).trans rfl, (blk_cell BK303.out 3).trans rfl, (blk_cell BK303.out 4).trans rfl, (blk_cell BK303.out 5).trans rfl, (blk_cell BK289.out 0).trans rfl, (blk_cell BK289.out 1).trans rfl, (blk_cell BK289.out 2).trans rfl, (blk_cell BK289.out 3).trans rfl, (blk_cell BK289.out 4).trans rfl, (blk_cell BK289.out 5).trans rfl, (blk_cell BK302.out 0).trans rfl, (blk_cell BK302.out 1).trans rfl, (blk_cell BK302.out 2).trans rfl, (blk_cell BK302.out 3).trans rfl, (blk_cell BK302.out 4).trans rfl, (blk_cell BK302.out 5).trans rfl⟩ (fun hHeld => ?_)
        clear hK K
        refine norm_ (a' := ?_) ?_ ?_
        rotate_left
        ·show Act.put _ (some 37) _ = _
         simp only [Act.put, List.setIfInBounds_toArray, List.set_cons_zero, List.set_cons_succ, i64_w, i32_w]
         rfl
        refine pure_ (i := 7) (N := some 38) (v := ?_) (a' := ?_) #[true, true, true, true, true, true, true, true, false, false, false, false, false, false, false, false, false, false, false, false, false, false, false, false, false, false, false] rfl rfl (any_of HT_.out (by kernel_rfl)) (fun _ _ _ h => h) (Or.inl ⟨by rfl, ?_⟩) ?_ ?_
        rotate_left
        ·intro w'
         go_simp
         with_reducible rfl
        rotate_left
        ·simp only [Act.put, List.setIfInBounds_toArray, List.set_cons_zero, List.set_cons_succ, i64_w, i32_w]
         rfl
        refine pure_ (i := 8) (N := some 39) (v := ?_) (a' := ?_) #[true, true, true, true, true, true, true, true, true, false, false, false, false, false, false, false, false, false, false, false, false, false, false, false, false, false, false] rfl rfl (any_of HT_.out (by kernel_rfl)) (fun _ _ _ h => h) (Or.inl ⟨by rfl, ?_⟩) ?_ ?_
        rotate_left
        ·intro w'
         go_simp
         with_reducible rfl
        rotate_left
        ·simp only [Act.put, List.setIfInBounds_toArray, List.set_cons_zero, List.set_cons_succ, i64_w, i32_w]
         rfl
        refine pure_ (i := 9) (N := some 40) (v := ?_) (a' := ?_) #[true, true, true, true, true, true, true, true, true, true, false, false, false, false, false, false, false, false, false, false, false, false, false, false, false, false, false] rfl rfl (any_of HT_.out (by kernel_rfl)) (fun _ _ _ h => h) (Or.inl ⟨by rfl, ?_⟩) ?_ ?_
        rotate_left
        ·intro w'
         go_simp
         with_reducible rfl
        rotate_left
        ·simp only [Act.put, List.setIfInBounds_toArray, List.set_cons_zero, List.set_cons_succ, i64_w, i32_w]
         rfl
        refine pure_ (i := 10) (N := some 41) (v := ?_) (a' := ?_) #[true, true, true, true, true, true, true, true, true, true, true, false, false, false, false, false, false, false, false, false, false, false, false, false, false, false, false] rfl rfl (any_of HT_.out (by kernel_rfl)) (fun _ _ _ h => h) (Or.inl ⟨by rfl, ?_⟩) ?_ ?_
        rotate_left
        ·intro w'
         go_simp
         with_reducible rfl
        rotate_left
        ·simp only [Act.put, List.setIfInBounds_toArray, List.set_cons_zero, List.set_cons_succ, i64_w, i32_w]
         rfl
        refine pure_ (i := 11) (N := some 42) (v := ?_) (a' := ?_) #[true, true, true, true, true, true, true, true, true, true, true, true, false, false, false, false, false, false, false, false, false, false, false, false, false, false, false] rfl rfl (any_of HT_.out (by kernel_rfl)) (fun _ _ _ h => h) (Or.inl ⟨by rfl, ?_⟩) ?_ ?_
        rotate_left
        ·intro w'
         go_simp
         with_reducible rfl
        rotate_left
        ·simp only [Act.put, List.setIfInBounds_toArray, List.set_cons_zero, List.set_cons_succ, i64_w, i32_w]
         rfl
        refine pure_ (i := 12) (N := some 43) (v := ?_) (a' := ?_) #[true, true, true, true, true, true, true, true, true, true, true, true, true, false, false, false, false, false, false, false, false, false, false, false, false, false, false] rfl rfl (any_of HT_.out (by kernel_rfl)) (fun _ _ _ h => h) (Or.inl ⟨by rfl, ?_⟩) ?_ ?_
        rotate_left
        ·intro w'
         go_simp
         with_reducible rfl
        rotate_left
        ·simp only [Act.put, List.setIfInBounds_toArray, List.set_cons_zero, List.set_cons_succ, i64_w, i32_w]
         rfl
        refine take_ (i := 13) (N := some 44) (v := ?_) (a' := ?_) #[true, true, true, true, true, true, true, true, true, true, true, true, true, true, false, false, false, false, false, false, false, false, false, false, false, false, false] rfl rfl (take_ofW HT_.out HW_.out (by kernel_rfl)) (fun _ _ _ h => h) (Or.inl ⟨by rfl, ?_⟩) hHeld ?_ ?_
        rotate_left
        ·rintro w' ⟨s0, s1, s2, s3, s4, s5, s6, s7, s8, s9, s10, s11, s12, s13, s14, s15, s16, s17⟩
         go_simp
         with_reducible rfl
        rotate_left
        ·simp only [Act.put, List.setIfInBounds_toArray, List.set_cons_zero, List.set_cons_succ, i64_w, i32_w]
         rfl
        refine pure_ (i := 14) (N := some 45) (v := ?_) (a' := ?_) #[true, true, true, true, true, true, true, true, true, true, true, true, true, true, true, false, false, false, false, false, false, false, false, false, false, false, false] rfl rfl (any_of HT_.out (by kernel_rfl)) (fun _ _ _ h => h) (Or.inl ⟨by rfl, ?_⟩) ?_ ?_
        rotate_left
        ·intro w'
         go_simp
         with_reducible rfl
        rotate_left
        ·simp only [Act.put, List.setIfInBounds_toArray, List.set_cons_zero, List.set_cons_succ, i64_w, i32_w]
         rfl
        refine pure_ (i := 15) (N := some 46) (v := ?_) (a' := ?_) #[true, true, true, true, true, true, true, true, true, true, true, true, true, true, true, true, false, false, false, false, false, false, false, false, false, false, false] rfl rfl (any_of HT_.out (by kernel_rfl)) (fun _ _ _ h => h) (Or.inl ⟨by rfl, ?_⟩) ?_ ?_
        rotate_left
        ·intro w'
         go_simp
         with_reducible rfl
        rotate_left
        ·simp only [Act.put, List.setIfInBounds_toArray, List.set_cons_zero, List.set_cons_succ, i64_w, i32_w]
         rfl
        refine pure_ (i := 16) (N := some 47) (v := ?_) (a' := ?_) #[true, true, true, true, true, true, true, true, true, true, true, true, true, true, true, true, true, false, false, false, false, false, false, false, false, false, false] rfl rfl (any_of HT_.out (by kernel_rfl)) (fun _ _ _ h => h) (Or.inl ⟨by rfl, ?_⟩) ?_ ?_
        rotate_left
        ·intro w'
         go_simp
         with_reducible rfl
        rotate_left
        ·simp only [Act.put, List.setIfInBounds_toArray, List.set_cons_zero, List.set_cons_succ, i64_w, i32_w]
         rfl
        refine pure_ (i := 17) (N := some 48) (v := ?_) (a' := ?_) #[true, true, true, true, true, true, true, true, true, true, true, true, true, true, true, true, true, true, false, false, false, false, false, false, false, false, false] rfl rfl (any_of HT_.out (by kernel_rfl)) (fun _ _ _ h => h) (Or.inl ⟨by rfl, ?_⟩) ?_ ?_
        rotate_left
        ·intro w'
         go_simp
         with_reducible rfl
        rotate_left
        ·simp only [Act.put, List.setIfInBounds_toArray, List.set_cons_zero, List.set_cons_succ, i64_w, i32_w]
         rfl
        refine pure_ (i := 18) (N := some 49) (v := ?_) (a' := ?_) #[true, true, true, true, true, true, true, true, true, true, true, true, true, true, true, true, true, true, true, false, false, false, false, false, false, false, false] rfl rfl (any_of HT_.out (by kernel_rfl)) (fun _ _ _ h => h) (Or.inl ⟨by rfl, ?_⟩) ?_ ?_
        rotate_left
        ·intro w'
         go_simp
         with_reducible rfl
        rotate_left
        ·simp only [Act.put, List.setIfInBounds_toArray, List.set_cons_zero, List.set_cons_succ, i64_w, i32_w]
         rfl
        refine pure_ (i := 19) (N := some 50) (v := ?_) (a' := ?_) #[true, true, true, true, true, true, true, true, true, true, true, true, true, true, true, true, true, true, true, true, false, false, false, false, false, false, false] rfl rfl (any_of HT_.out (by kernel_rfl)) (fun _ _ _ h => h) (Or.inl ⟨by rfl, ?_⟩) ?_ ?_
        rotate_left
        ·intro w'
         go_simp
         with_reducible rfl
        rotate_left
        ·simp only [Act.put, List.setIfInBounds_toArray, List.set_cons_zero, List.set_cons_succ, i64_w, i32_w]
         rfl
        refine pure_ (i := 20) (N := some 51) (v := undef) (a' := ?_) #[true, true, true, true, true, true, true, true, true, true, true, true, true, true, true, true, true, true, true, true, true, false, false, false, false, false, false] rfl rfl (any_of HT_.out (by kernel_rfl)) (fun _ _ _ h => h) (Or.inr ⟨by rfl, rfl⟩) ?_ ?_
        rotate_left
        ·simp only [Act.put, List.setIfInBounds_toArray, List.set_cons_zero, List.set_cons_succ, i64_w, i32_w]
         rfl
        refine pure_ (i := 21) (N := some 52) (v := undef) (a' := ?_) #[true, true, true, true, true, true, true, true, true, true, true, true, true, true, true, true, true, true, true, true, true, true, false, false, false, false, false] rfl rfl (any_of HT_.out (by kernel_rfl)) (fun _ _ _ h => h) (Or.inr ⟨by rfl, rfl⟩) ?_ ?_
        rotate_left
        ·simp only [Act.put, List.setIfInBounds_toArray, List.set_cons_zero, List.set_cons_succ, i64_w, i32_w]
         rfl
        refine pure_ (i := 22) (N := some 53) (v := undef) (a' := ?_) #[true, true, true, true, true, true, true, true, true, true, true, true, true, true, true, true, true, true, true, true, true, true, true, false, false, false, false] rfl rfl (any_of HT_.out (by kernel_rfl)) (fun _ _ _ h => h) (Or.inr ⟨by rfl, rfl⟩) ?_ ?_
        rotate_left
        ·simp only [Act.put, List.setIfInBounds_toArray, List.set_cons_zero, List.set_cons_succ, i64_w, i32_w]
         rfl
        refine pure_ (i := 23) (N := some 54) (v := undef) (a' := ?_) #[true, true, true, true, true, true, true, true, true, true, true, true, true, true, true, true, true, true, true, true, true, true, true, true, false, false, false] rfl rfl (any_of HT_.out (by kernel_rfl)) (fun _ _ _ h => h) (Or.inr ⟨by rfl, rfl⟩) ?_ ?_
        rotate_left
        ·simp only [Act.put, List.setIfInBounds_toArray, List.set_cons_zero, List.set_cons_succ, i64_w, i32_w]
         rfl
        refine pure_ (i := 24) (N := some 55) (v := undef) (a' := ?_) #[true, true, true, true, true, true, true, true, true, true, true, true, true, true, true, true, true, true, true, true, true, true, true, true, true, false, false] rfl rfl (any_of HT_.out (by kernel_rfl)) (fun _ _ _ h => h) (Or.inr ⟨by rfl, rfl⟩) ?_ ?_
        rotate_left
        ·simp only [Act.put, List.setIfInBounds_toArray, List.set_cons_zero, List.set_cons_succ, i64_w, i32_w]
         rfl
        refine pure_ (i := 25) (N := some 56) (v := ?_) (a' := ?_) #[true, true, true, true, true, true, true, true, true, true, true, true, true, true, true, true, true, true, true, true, true, true, true, true, true, true, false] rfl rfl (any_of HT_.out (by kernel_rfl)) (fun _ _ _ h => h) (Or.inl ⟨by rfl, ?_⟩) ?_ ?_
        rotate_left
        ·intro w'
         go_simp
         with_reducible rfl
        rotate_left
        ·simp only [Act.put, List.setIfInBounds_toArray, List.set_cons_zero, List.set_cons_succ, i64_w, i32_w]
         rfl
        refine pure_ (i := 26) (N := some 57) (v := ?_) (a' := ?_) #[true, true, true, true, true, true, true, true, true, true, true, true, true, true, true, true, true, true, true, true, true, true, true, true, true, true, true] rfl rfl (any_of HT_.out (by kernel_rfl)) (fun _ _ _ h => h) (Or.inl ⟨by rfl, ?_⟩) ?_ ?_
        rotate_left
        ·intro w'
         go_simp
         with_reducible rfl
        rotate_left
        ·simp only [Act.put, List.setIfInBounds_toArray, List.set_cons_zero, List.set_cons_succ, i64_w, i32_w]
         rfl
        refine done_ (done_of HT_.out (by kernel_rfl)) ?_
        try go_wp2
        go_meet
        case rel => exact ⟨_, (false), (by first | rfl | (simp; done) | (simp [*]; done)), H', ⟨by first | omega | exact Nat.le_refl _⟩, ⟨by (with_reducible repeat apply pV); exact HO297.out⟩, ⟨by (with_reducible repeat apply pV); exact HO297.out⟩, ⟨by (with_reducible repeat apply pK); exact BK289.out⟩, ⟨by (with_reducible repeat apply pK); exact BK302.out⟩, ⟨by (with_reducible repeat apply pK); exact BK303.out⟩, ⟨bl_⟩⟩
      ·have H1 : (if (true != a0_4) = true then (none) else (shutterlaw15_MoveAlone.j0 k (wrap64 (2 + (wrap64 (Int.tmod a1 8)))) (some q306) (t298 != a0_3) a0_0 a0_1 l0_2 a0_3 a0_4 a0_5 t293 t294 t295 t298 t299 t300)) = some r := by rw [if_neg (show ¬ (some q306).isNone = true by simp)] at H; exact H
       clear H
       have H := H1
       clear H1
       try simp only [errW_none, errW_some]
       by_cases c33 : (true != a0_4) = true
       ·rw [if_pos c33] at H
        exact absurd H (by simp)
       ·rw [if_neg c33] at H
        have c33b0 : (true != a0_4) = false := by simpa using c33
        (try (have c33b1 : decide (true = a0_4) = true := by simpa using c33))
        (try (have c33b2 : (true == a0_4) = true := by simpa using c33))
        clear c33
        have H' := Aside0.mk H
        clear H
        try go_wp2
        have n0_ : Aside0 (Kd.V k44 44 (((((((w19.setCell ⟨gb303, 0, none⟩ (.int .i64 t293)).setCell ⟨gb303, 1, none⟩ (.int .i64 t294)).setCell ⟨gb303, 2, none⟩ (.slice Ao18 t295.length co18)).setCell ⟨gb303, 3, none⟩ (.int .i64 t298)).setCell ⟨gb303, 4, none⟩ (.bool t299)).setCell ⟨gb303, 5, none⟩ (.bool t300)).setCell ⟨gb303, 3, none⟩ (.int .i64 a0_3)) w.heap.size (fun k_ => k_ ≠ gb289 ∧ k_ ≠ gb302 ∧ k_ ≠ gb303) (.slice Ao18 t295.length co18) t295) := ⟨by (with_reducible repeat apply pV); exact Kd.V_mono (Kd.V_far (p := ⟨gb303, 3, none⟩) (Kd.V_far (p := ⟨gb303, 5, none⟩) (Kd.V_far (p := ⟨gb303, 4, none⟩) (Kd.V_far (p := ⟨gb303, 3, none⟩) (Kd.V_far (p := ⟨gb303, 2, none⟩) (Kd.V_far (p := ⟨gb303, 1, none⟩) (Kd.V_far (p := ⟨gb303, 0, none⟩) (Kd.V_mono HO297.out (fun k_ hk => (⟨hk, hk.2⟩ : _ ∧ k_ ≠ gb303))) (fun _ hk => hk.2) (.int .i64 t293)) (fun _ hk => hk.2) (.int .i64 t294)) (fun _ hk => hk.2) (.slice Ao18 t295.length co18)) (fun _ hk => hk.2) (.int .i64 t298)) (fun _ hk => hk.2) (.bool t299)) (fun _ hk => hk.2) (.bool t300)) (fun _ hk => hk.2) (.int .i64 a0_3)) (fun _ hk => ⟨hk.1.1.1, ⟨hk.1.1.2, hk.1.2⟩⟩)⟩
        have n1_ : Aside0 ((((((((w19.setCell ⟨gb303, 0, none⟩ (.int .i64 t293)).setCell ⟨gb303, 1, none⟩ (.int .i64 t294)).setCell ⟨gb303, 2, none⟩ (.slice Ao18 t295.length co18)).setCell ⟨gb303, 3, none⟩ (.int .i64 t298)).setCell ⟨gb303, 4, none⟩ (.bool t299)).setCell ⟨gb303, 5, none⟩ (.bool t300)).setCell ⟨gb303, 3, none⟩ (.int .i64 a0_3)).heap[gb289]? = some (.cells #[.int .i64 a0_0, .int .i64 a0_1, .slice A0_2 l0_2.length c0_2, .int .i64 a0_3, .bool a0_4, .bool a0_5] 24 (0, 0))) := ⟨by (with_reducible repeat apply pK); refine blk_far ?_ NB289_303.out _; (with_reducible repeat apply pK); refine blk_far ?_ NB289_303.out _; (with_reducible repeat apply pK); refine blk_far ?_ NB289_303.out _; (with_reducible repeat apply pK); refine blk_far ?_ NB289_303.out _; (with_reducible repeat apply pK); refine blk_far ?_ NB289_303.out _; (with_reducible repeat apply pK); refine blk_far ?_ NB289_303.out _; (with_reducible repeat apply pK); refine blk_far ?_ NB289_303.out _; (with_reducible repeat apply pK); exact BK289.out⟩
        have n2_ : Aside0 ((((((((w19.setCell ⟨gb303, 0, none⟩ (.int .i64 t293)).setCell ⟨gb303, 1, none⟩ (.int .i64 t294)).setCell ⟨gb303, 2, none⟩ (.slice Ao18 t295.length co18)).setCell ⟨gb303, 3, none⟩ (.int .i64 t298)).setCell ⟨gb303, 4, none⟩ (.bool t299)).setCell ⟨gb303, 5, none⟩ (.bool t300)).setCell ⟨gb303, 3, none⟩ (.int .i64 a0_3)).heap[gb302]? = some (.cells #[.int .i64 t293, .int .i64 t294, .slice Ao18 t295.length co18, .int .i64 t298, .bool t299, .bool t300] 24 (0, 0))) := ⟨by (with_reducible repeat apply pK); refine blk_far ?_ NB302_303.out _; (with_reducible repeat apply pK); refine blk_far ?_ NB302_303.out _; (with_reducible repeat apply pK); refine blk_far ?_ NB302_303.out _; (with_reducible repeat apply pK); refine blk_far ?_ NB302_303.out _; (with_reducible repeat apply pK); refine blk_far ?_ NB302_303.out _; (with_reducible repeat apply pK); refine blk_far ?_ NB302_303.out _; (with_reducible repeat apply pK); refine blk_far ?_ NB302_303.out _; (with_reducible repeat apply pK); exact BK302.out⟩
        have n3_ : Aside0 ((((((((w19.setCell ⟨gb303, 0, none⟩ (.int .i64 t293)).setCell ⟨gb303, 1, none⟩ (.int .i64 t294)).setCell ⟨gb303, 2, none⟩ (.slice Ao18 t295.length co18)).setCell ⟨gb303, 3, none⟩ (.int .i64 t298)).setCell ⟨gb303, 4, none⟩ (.bool t299)).setCell ⟨gb303, 5, none⟩ (.bool t300)).setCell ⟨gb303, 3, none⟩ (.int .i64 a0_3)).heap[gb303]? = some (.cells #[.int .i64 t293, .int .i64 t294, .slice Ao18 t295.length co18, .int .i64 a0_3, .bool t299, .bool t300] 24 (0, 0))) := ⟨by (with_reducible repeat apply pK); refine blk_put (cs := #[.int .i64 t293, .int .i64 t294, .slice Ao18 t295.length co18, .int .i64 t298, .bool t299, .bool t300]) ?_ 3 _ rfl; (with_reducible repeat apply pK); refine blk_put (cs := #[.int .i64 t293, .int .i64 t294, .slice Ao18 t295.length co18, .int .i64 t298, .bool t299, .bool false]) ?_ 5 _ rfl; (with_reducible repeat apply pK); refine blk_put (cs := #[.int .i64 t293, .int .i64 t294, .slice Ao18 t295.length co18, .int .i64 t298, .bool false, .bool false]) ?_ 4 _ rfl; (with_reducible repeat apply pK); refine blk_put (cs := #[.int .i64 t293, .int .i64 t294, .slice Ao18 t295.length co18, .int .i64 0, .bool false, .bool false]) ?_ 3 _ rfl; (with_reducible repeat apply pK); refine blk_put (cs := #[.int .i64 t293, .int .i64 t294, .slice none 0 0, .int .i64 0, .bool false, .bool false]) ?_ 2 _ rfl; (with_reducible repeat apply pK); refine blk_put (cs := #[.int .i64 t293, .int .i64 0, .slice none 0 0, .int .i64 0, .bool false, .bool false]) ?_ 1 _ rfl; (with_reducible repeat apply pK); refine blk_put (cs := #[.int .i64 0, .int .i64 0, .slice none 0 0, .int .i64 0, .bool false, .bool false]) ?_ 0 _ rfl; (with_reducible repeat apply pK); exact BK303.out⟩
        have n4_ : Aside0 (Below w.heap.size w (((((((w19.setCell ⟨gb303, 0, none⟩ (.int .i64 t293)).setCell ⟨gb303, 1, none⟩ (.int .i64 t294)).setCell ⟨gb303, 2, none⟩ (.slice Ao18 t295.length co18)).setCell ⟨gb303, 3, none⟩ (.int .i64 t298)).setCell ⟨gb303, 4, none⟩ (.bool t299)).setCell ⟨gb303, 5, none⟩ (.bool t300)).setCell ⟨gb303, 3, none⟩ (.int .i64 a0_3))) := ⟨bl_⟩
        (try clear HO297)
        (try clear BK289)
        (try clear BK302)
        (try clear BK303)
        (try clear HB)
        generalize (((((((w19.setCell ⟨gb303, 0, none⟩ (.int .i64 t293)).setCell ⟨gb303, 1, none⟩ (.int .i64 t294)).setCell ⟨gb303, 2, none⟩ (.slice Ao18 t295.length co18)).setCell ⟨gb303, 3, none⟩ (.int .i64 t298)).setCell ⟨gb303, 4, none⟩ (.bool t299)).setCell ⟨gb303, 5, none⟩ (.bool t300)).setCell ⟨gb303, 3, none⟩ (.int .i64 a0_3)) = w34 at n0_ n1_ n2_ n3_ n4_ ⊢
        have HO297 := n0_
        have BK289 := n1_
        have BK302 := n2_
        have BK303 := n3_
        have HB := n4_
        clear n0_ n1_ n2_ n3_ n4_
        have n0_ := Aside0.mk (Kd.V_drew HO297.out)
        have n1_ := Aside0.mk (blk_drew BK289.out)
        have n2_ := Aside0.mk (blk_drew BK302.out)
        have n3_ := Aside0.mk (blk_drew BK303.out)
        have n4_ := Aside0.mk (below_drew1 HB.out)
        clear HO297
        clear BK289
        clear BK302
        clear BK303
        clear HB
        have HO297 := n0_
        have BK289 := n1_
        have BK302 := n2_
        have BK303 := n3_
        have HB := n4_
        clear n0_ n1_ n2_ n3_ n4_
        refine start_ (n := 27) (S := fun w' => w'.cell? ⟨gb303, 0, none⟩ = some (.int .i64 t293) ∧ w'.cell? ⟨gb303, 1, none⟩ = some (.int .i64 t294) ∧ w'.cell? ⟨gb303, 2, none⟩ = some (.slice Ao18 t295.length co18) ∧ w'.cell? ⟨gb303, 3, none⟩ = some (.int .i64 a0_3) ∧ w'.cell? ⟨gb303, 4, none⟩ = some (.bool t299) ∧ w'.cell? ⟨gb303, 5, none⟩ = some (.bool t300) ∧ w'.cell? ⟨gb289, 0, none⟩ = some (.int .i64 a0_0) ∧ w'.cell? ⟨gb289, 1, none⟩ = some (.int .i64 a0_1) ∧ w'.cell? ⟨gb289, 2, none⟩ = some (.slice A0_2 l0_2.length c0_2) ∧ w'.cell? ⟨gb289, 3, none⟩ = some (.int .i64 a0_3) ∧ w'.cell? ⟨gb289, 4, none⟩ = some (.bool a0_4) ∧ w'.cell? ⟨gb289, 5, none⟩ = some (.bool a0_5) ∧ w'.cell? ⟨gb302, 0, none⟩ = some (.int .i64 t293) ∧ w'.cell? ⟨gb302, 1, none⟩ = some (.int .i64 t294) ∧ w'.cell? ⟨gb302, 2, none⟩ = some (.slice Ao18 t295.length co18) ∧ w'.cell? ⟨gb302, 3, none⟩ = some (.int .i64 t298) ∧ w'.cell? ⟨gb302, 4, none⟩ = some (.bool t299) ∧ w'.cell? ⟨gb302, 5, none⟩ = some (.bool t300)) (ds := []) #[false, false, false, false, false, false, false, false, false, false, false, false, false, false, false, false, false, false, false, false, false, false, false, false, false, false, false] (by kernel_rfl) rfl rfl ⟨(blk_cell BK303.out 0).trans rfl, (blk_cell BK303.out 1).trans rfl, (blk_cell BK303.out 2).trans rfl, (blk_cell BK303.out 3).trans rfl, (blk_cell BK303.out 4).trans rfl, (blk_cell BK303.out 5).trans rfl, (blk_cell BK289.out 0).trans rfl, (blk_cell BK289.out 1).trans rfl, (blk_cell BK289.out 2).trans rfl, (blk_cell BK289.out 3).trans rfl, (blk_cell BK289.out 4).trans rfl, (blk_cell BK289.out 5).trans rfl, (blk_cell BK302.out 0).trans rfl, (blk_cell BK302.out 1).trans rfl, (blk_cell BK302.out 2).trans rfl, (blk_cell BK302.out 3).trans rfl, (blk_cell BK302.out 4).trans rfl, (blk_cell BK302.out 5).trans rfl⟩ (fun hHeld => ?_); refine with_tabW shutterlaw15_MoveAlone.tab7 shutterlaw15_MoveAlone.bits7 (fun HT_ HW_ => ?_)
        generalize w34.drew = w35 at HO297 BK289 BK302 BK303 HB hHeld ⊢
        refine take_ (i := 0) (N := some 31) (v := ?_) (a' := ?_) #[true, false, false, false, false, false, false, false, false, false, false, false, false, false, false, false, false, false, false, false, false, false, false, false, false, false, false] rfl rfl (take_ofW HT_.out HW_.out (by kernel_rfl)) (fun _ _ _ h => h) (Or.inl ⟨by rfl, ?_⟩) hHeld ?_ ?_
        rotate_left
        ·rintro w' ⟨s0, s1, s2, s3, s4, s5, s6, s7, s8, s9, s10, s11, s12, s13, s14, s15, s16, s17⟩
         go_simp
         with_reducible rfl
        rotate_left
        ·simp only [Act.put, List.setIfInBounds_toArray, List.set_cons_zero, List.set_cons_succ, i64_w, i32_w]
         rfl
        refine take_ (i := 1) (N := some 32) (v := ?_) (a' := ?_) #[true, true, false, false, false, false, false, false, false, false, false, false, false, false, false, false, false, false, false, false, false, false, false, false, false, false, false] rfl rfl (take_ofW HT_.out HW_.out (by kernel_rfl)) (fun _ _ _ h => h) (Or.inl ⟨by rfl, ?_⟩) hHeld ?_ ?_
        rotate_left
        ·rintro w' ⟨s0, s1, s2, s3, s4, s5, s6, s7, s8, s9, s10, s11, s12, s13, s14, s15, s16, s17⟩
         go_simp
         with_reducible rfl
        rotate_left
        ·simp only [Act.put, List.setIfInBounds_toArray, List.set_cons_zero, List.set_cons_succ, i64_w, i32_w]
         rfl
        refine one_ (i := 2) (N := some 33) #[true, true, true, false, false, false, false, false, false, false, false, false, false, false, false, false, false, false, false, false, false, false, false, false, false, false, false] rfl rfl (one_of HT_.out (by kernel_rfl)) (by decide) (fun K hK => ?_)
        refine goes_ Tryd.func12 (by kernel_rfl) rfl #[.agg #[.int .i64 t293, .int .i64 t294, .slice Ao18 t295.length co18, .int .i64 a0_3, .bool t299, .bool t300], .agg #[.int .i64 a0_0, .int .i64 a0_1, .slice A0_2 l0_2.length c0_2, .int .i64 a0_3, .bool a0_4, .bool a0_5]] (by rfl) rfl rfl ag_ ?_
        with_reducible refine (shutterref10_Same.calls k t293 t294 _ _ t295 a0_3 t299 t300 a0_0 a0_1 _ _ l0_2 a0_3 a0_4 a0_5 true _ ?side1 ?side2 ?side3 ?side4 A24.out).mono ?_
        (case side1 => repeat (first | exact (Kd.V_reads' HO297.out).2.2 | (with_reducible apply pC)))
        (case side2 => exact (Kd.V_reads' HO297.out).2.1)
        (case side3 => repeat (first | exact (Kd.C_below HR0_2.out HB.out) | (with_reducible apply pC)))
        (case side4 => exact HC0_2.out)
        rintro e w36 ⟨rfl, hb⟩
        refine ⟨_, rfl, ?_⟩
        have n0_ := Aside0.mk (Kd.V_below (by (with_reducible repeat apply pV); exact HO297.out) hb)
        have n1_ := Aside0.mk (blk_below (g := gb289) (o := .cells #[.int .i64 a0_0, .int .i64 a0_1, .slice A0_2 l0_2.length c0_2, .int .i64 a0_3, .bool a0_4, .bool a0_5] 24 (0, 0)) (by (with_reducible repeat apply pK); exact BK289.out) hb)
        have n2_ := Aside0.mk (blk_below (g := gb302) (o := .cells #[.int .i64 t293, .int .i64 t294, .slice Ao18 t295.length co18, .int .i64 t298, .bool t299, .bool t300] 24 (0, 0)) (by (with_reducible repeat apply pK); exact BK302.out) hb)
        have n3_ := Aside0.mk (blk_below (g := gb303) (o := .cells #[.int .i64 t293, .int .i64 t294, .slice Ao18 t295.length co18, .int .i64 a0_3, .bool t299, .bool t300] 24 (0, 0)) (by (with_reducible repeat apply pK); exact BK303.out) hb)
        have n4_ := Aside0.mk (below_step bl_ hb)
        clear HO297
        clear BK289
        clear BK302
        clear BK303
        clear HB
        have HO297 := n0_
        have BK289 := n1_
        have BK302 := n2_
        have BK303 := n3_
        have HB := n4_
        clear n0_ n1_ n2_ n3_ n4_
        (try clear hb)
        (try clear hb2)
        (try clear hk)
        (try clear hi)
        refine hK.out _ _ ⟨(blk_cell BK303.out 0).trans rfl, (blk_cell BK303.out 1).trans rfl, (blk_cell BK303.out 2).trans rfl, (blk_cell BK303.out 3).trans rfl, (blk_cell BK303.out 4).trans rfl, (blk_cell BK303.out 5).trans rfl, (blk_cell BK289.out 0).trans rfl, (blk_cell BK289.out 1).trans rfl, (blk_cell BK289.out 2).trans rfl, (blk_cell BK289.out 3).trans rfl, (blk_cell BK289.out 4).trans rfl, (blk_cell BK289.out 5).trans rfl, (blk_cell BK302.out 0).trans rfl, (blk_cell BK302.out 1).trans rfl, (blk_cell BK302.out 2).trans rfl, (blk_cell BK302.out 3).trans rfl, (blk_cell BK302.out 4).trans rfl, (blk_cell BK302.out 5).trans rfl⟩ (fun hHeld => ?_)
        clear hK K
        refine norm_ (a' := ?_) ?_ ?_
        rotate_left
        ·show Act.put _ (some 33) _ = _
         simp only [Act.put, List.setIfInBounds_toArray, List.set_cons_zero, List.set_cons_succ, i64_w, i32_w]
         rfl
        refine pure_ (i := 3) (N := some 34) (v := ?_) (a' := ?_) #[true, true, true, true, false, false, false, false, false, false, false, false, false, false, false, false, false, false, false, false, false, false, false, false, false, false, false] rfl rfl (any_of HT_.out (by kernel_rfl)) (fun _ _ _ h => h) (Or.inl ⟨by rfl, ?_⟩) ?_ ?_
        rotate_left
        ·intro w'
         go_simp
         with_reducible rfl
        rotate_left
        ·simp only [Act.put, List.setIfInBounds_toArray, List.set_cons_zero, List.set_cons_succ, i64_w, i32_w]
         rfl
        refine pure_ (i := 4) (N := some 35) (v := ?_) (a' := ?_) #[true, true, true, true, true, false, false, false, false, false, false, false, false, false, false, false, false, false, false, false, false, false, false, false, false, false, false] rfl rfl (any_of HT_.out (by kernel_rfl)) (fun _ _ _ h => h) (Or.inl ⟨by rfl, ?_⟩) ?_ ?_
        rotate_left
        ·intro w'
         go_simp
         with_reducible rfl
        rotate_left
        ·simp only [Act.put, List.setIfInBounds_toArray, List.set_cons_zero, List.set_cons_succ, i64_w, i32_w]
         rfl
        refine take_ (i := 5) (N := some 36) (v := ?_) (a' := ?_) #[true, true, true, true, true, true, false, false, false, false, false, false, false, false, false, false, false, false, false, false, false, false, false, false, false, false, false] rfl rfl (take_ofW HT_.out HW_.out (by kernel_rfl)) (fun _ _ _ h => h) (Or.inl ⟨by rfl, ?_⟩) hHeld ?_ ?_
        rotate_left
        ·rintro w' ⟨s0, s1, s2, s3, s4, s5, s6, s7, s8, s9, s10, s11, s12, s13, s14, s15, s16, s17⟩
         go_simp
         with_reducible rfl
        rotate_left
        ·simp only [Act.put, List.setIfInBounds_toArray, List.set_cons_zero, List.set_cons_succ, i64_w, i32_w]
         rfl
        refine one_ (i := 6) (N := some 37) #[true, true, true, true, true, true, true, false, false, false, false, false, false, false, false, false, false, false, false, false, false, false, false, false, false, false, false] rfl rfl (one_of HT_.out (by kernel_rfl)) (by decide) (fun K hK => ?_)
        refine goes_ Tryd.func15 (by kernel_rfl) rfl #[.agg #[.int .i64 t293, .int .i64 t294, .slice Ao18 t295.length co18, .int .i64 t298, .bool t299, .bool t300]] (by rfl) rfl rfl ag_ ?_
        with_reducible refine (shutterref10_Right.calls k t293 t294 _ _ t295 t298 t299 t300 true _ ?side1 ?side2 A26.out).mono ?_
        (case side1 => repeat (first | exact (Kd.V_reads' HO297.out).2.2 | (with_reducible apply pC)))
        (case side2 => exact (Kd.V_reads' HO297.out).2.1)
        rintro e w37 ⟨rfl, hb⟩
        refine ⟨_, rfl, ?_⟩
        have n0_ := Aside0.mk (Kd.V_below (by (with_reducible repeat apply pV); exact HO297.out) hb)
        have n1_ := Aside0.mk (blk_below (g := gb289) (o := .cells #[.int .i64 a0_0, .int .i64 a0_1, .slice A0_2 l0_2.length c0_2, .int .i64 a0_3, .bool a0_4, .bool a0_5] 24 (0, 0)) (by (with_reducible repeat apply pK); exact BK289.out) hb)
        have n2_ := Aside0.mk (blk_below (g := gb302) (o := .cells #[.int .i64 t293, .int .i64 t294, .slice Ao18 t295.length co18, .int .i64 t298, .bool t299, .bool t300] 24 (0, 0)) (by (with_reducible repeat apply pK); exact BK302.out) hb)
        have n3_ := Aside0.mk (blk_below (g := gb303) (o := .cells #[.int .i64 t293, .int .i64 t294, .slice Ao18 t295.length co18, .int .i64 a0_3, .bool t299, .bool t300] 24 (0, 0)) (by (with_reducible repeat apply pK); exact BK303.out) hb)
        have n4_ := Aside0.mk (below_step bl_ hb)
        clear HO297
        clear BK289
        clear BK302
        clear BK303
        clear HB
        have HO297 := n0_
        have BK289 := n1_
        have BK302 := n2_
        have BK303 := n3_
        have HB := n4_
        clear n0_ n1_ n2_ n3_ n4_
        (try clear hb)
        (try clear hb2)
        (try clear hk)
        (try clear hi)
        refine hK.out _ _ ⟨(blk_cell BK303.out 0).trans rfl, (blk_cell BK303.out 1).trans rfl, (blk_cell BK303.out 2).trans rfl, (blk_cell BK303.out 3).trans rfl, (blk_cell BK303.out 4).trans rfl, (blk_cell BK303.out 5).trans rfl, (blk_cell BK289.out 0).trans rfl, (blk_cell BK289.out 1).trans rfl, (blk_cell BK289.out 2).trans rfl, (blk_cell BK289.out 3).trans rfl, (blk_cell BK289.out 4).trans rfl, (blk_cell BK289.out 5).trans rfl, (blk_cell BK302.out 0).trans rfl, (blk_cell BK302.out 1).trans rfl, (blk_cell BK302.out 2).trans rfl, (blk_cell BK302.out 3).trans rfl, (blk_cell BK302.out 4).trans rfl, (blk_cell BK302.out 5).trans rfl⟩ (fun hHeld => ?_)
        clear hK K
        refine norm_ (a' := ?_) ?_ ?_
        rotate_left
        ·show Act.put _ (some 37) _ = _
         simp only [Act.put, List.setIfInBounds_toArray, List.set_cons_zero, List.set_cons_succ, i64_w, i32_w]
         rfl
        refine pure_ (i := 7) (N := some 38) (v := ?_) (a' := ?_) #[true, true, true, true, true, true, true, true, false, false, false, false, false, false, false, false, false, false, false, false, false, false, false, false, false, false, false] rfl rfl (any_of HT_.out (by kernel_rfl)) (fun _ _ _ h => h) (Or.inl ⟨by rfl, ?_⟩) ?_ ?_
        rotate_left
        ·intro w'
         go_simp
         with_reducible rfl
        rotate_left
        ·simp only [Act.put, List.setIfInBounds_toArray, List.set_cons_zero, List.set_cons_succ, i64_w, i32_w]
         rfl
        refine pure_ (i := 8) (N := some 39) (v := ?_) (a' := ?_) #[true, true, true, true, true, true, true, true, true, false, false, false, false, false, false, false, false, false, false, false, false, false, false, false, false, false, false] rfl rfl (any_of HT_.out (by kernel_rfl)) (fun _ _ _ h => h) (Or.inl ⟨by rfl, ?_⟩) ?_ ?_
        rotate_left
        ·intro w'
         go_simp
         with_reducible rfl
        rotate_left
        ·simp only [Act.put, List.setIfInBounds_toArray, List.set_cons_zero, List.set_cons_succ, i64_w, i32_w]
         rfl
        refine pure_ (i := 9) (N := some 40) (v := ?_) (a' := ?_) #[true, true, true, true, true, true, true, true, true, true, false, false, false, false, false, false, false, false, false, false, false, false, false, false, false, false, false] rfl rfl (any_of HT_.out (by kernel_rfl)) (fun _ _ _ h => h) (Or.inl ⟨by rfl, ?_⟩) ?_ ?_
        rotate_left
        ·intro w'
         go_simp
         with_reducible rfl
        rotate_left
        ·simp only [Act.put, List.setIfInBounds_toArray, List.set_cons_zero, List.set_cons_succ, i64_w, i32_w]
         rfl
        refine pure_ (i := 10) (N := some 41) (v := ?_) (a' := ?_) #[true, true, true, true, true, true, true, true, true, true, true, false, false, false, false, false, false, false, false, false, false, false, false, false, false, false, false] rfl rfl (any_of HT_.out (by kernel_rfl)) (fun _ _ _ h => h) (Or.inl ⟨by rfl, ?_⟩) ?_ ?_
        rotate_left
        ·intro w'
         go_simp
         with_reducible rfl
        rotate_left
        ·simp only [Act.put, List.setIfInBounds_toArray, List.set_cons_zero, List.set_cons_succ, i64_w, i32_w]
         rfl
        refine pure_ (i := 11) (N := some 42) (v := ?_) (a' := ?_) #[true, true, true, true, true, true, true, true, true, true, true, true, false, false, false, false, false, false, false, false, false, false, false, false, false, false, false] rfl rfl (any_of HT_.out (by kernel_rfl)) (fun _ _ _ h => h) (Or.inl ⟨by rfl, ?_⟩) ?_ ?_
        rotate_left
        ·intro w'
         go_simp
         with_reducible rfl
        rotate_left
        ·simp only [Act.put, List.setIfInBounds_toArray, List.set_cons_zero, List.set_cons_succ, i64_w, i32_w]
         rfl
        refine pure_ (i := 12) (N := some 43) (v := ?_) (a' := ?_) #[true, true, true, true, true, true, true, true, true, true, true, true, true, false, false, false, false, false, false, false, false, false, false, false, false, false, false] rfl rfl (any_of HT_.out (by kernel_rfl)) (fun _ _ _ h => h) (Or.inl ⟨by rfl, ?_⟩) ?_ ?_
        rotate_left
        ·intro w'
         go_simp
         with_reducible rfl
        rotate_left
        ·simp only [Act.put, List.setIfInBounds_toArray, List.set_cons_zero, List.set_cons_succ, i64_w, i32_w]
         rfl
        refine take_ (i := 13) (N := some 44) (v := ?_) (a' := ?_) #[true, true, true, true, true, true, true, true, true, true, true, true, true, true, false, false, false, false, false, false, false, false, false, false, false, false, false] rfl rfl (take_ofW HT_.out HW_.out (by kernel_rfl)) (fun _ _ _ h => h) (Or.inl ⟨by rfl, ?_⟩) hHeld ?_ ?_
        rotate_left
        ·rintro w' ⟨s0, s1, s2, s3, s4, s5, s6, s7, s8, s9, s10, s11, s12, s13, s14, s15, s16, s17⟩
         go_simp
         with_reducible rfl
        rotate_left
        ·simp only [Act.put, List.setIfInBounds_toArray, List.set_cons_zero, List.set_cons_succ, i64_w, i32_w]
         rfl
        refine pure_ (i := 14) (N := some 45) (v := ?_) (a' := ?_) #[true, true, true, true, true, true, true, true, true, true, true, true, true, true, true, false, false, false, false, false, false, false, false, false, false, false, false] rfl rfl (any_of HT_.out (by kernel_rfl)) (fun _ _ _ h => h) (Or.inl ⟨by rfl, ?_⟩) ?_ ?_
        rotate_left
        ·intro w'
         go_simp
         with_reducible rfl
        rotate_left
        ·simp only [Act.put, List.setIfInBounds_toArray, List.set_cons_zero, List.set_cons_succ, i64_w, i32_w]
         rfl
        refine pure_ (i := 15) (N := some 46) (v := ?_) (a' := ?_) #[true, true, true, true, true, true, true, true, true, true, true, true, true, true, true, true, false, false, false, false, false, false, false, false, false, false, false] rfl rfl (any_of HT_.out (by kernel_rfl)) (fun _ _ _ h => h) (Or.inl ⟨by rfl, ?_⟩) ?_ ?_
        rotate_left
        ·intro w'
         go_simp
         with_reducible rfl
        rotate_left
        ·simp only [Act.put, List.setIfInBounds_toArray, List.set_cons_zero, List.set_cons_succ, i64_w, i32_w]
         rfl
        refine pure_ (i := 16) (N := some 47) (v := ?_) (a' := ?_) #[true, true, true, true, true, true, true, true, true, true, true, true, true, true, true, true, true, false, false, false, false, false, false, false, false, false, false] rfl rfl (any_of HT_.out (by kernel_rfl)) (fun _ _ _ h => h) (Or.inl ⟨by rfl, ?_⟩) ?_ ?_
        rotate_left
        ·intro w'
         go_simp
         with_reducible rfl
        rotate_left
        ·simp only [Act.put, List.setIfInBounds_toArray, List.set_cons_zero, List.set_cons_succ, i64_w, i32_w]
         rfl
        refine pure_ (i := 17) (N := some 48) (v := ?_) (a' := ?_) #[true, true, true, true, true, true, true, true, true, true, true, true, true, true, true, true, true, true, false, false, false, false, false, false, false, false, false] rfl rfl (any_of HT_.out (by kernel_rfl)) (fun _ _ _ h => h) (Or.inl ⟨by rfl, ?_⟩) ?_ ?_
        rotate_left
        ·intro w'
         go_simp
         with_reducible rfl
        rotate_left
        ·simp only [Act.put, List.setIfInBounds_toArray, List.set_cons_zero, List.set_cons_succ, i64_w, i32_w]
         rfl
        refine pure_ (i := 18) (N := some 49) (v := ?_) (a' := ?_) #[true, true, true, true, true, true, true, true, true, true, true, true, true, true, true, true, true, true, true, false, false, false, false, false, false, false, false] rfl rfl (any_of HT_.out (by kernel_rfl)) (fun _ _ _ h => h) (Or.inl ⟨by rfl, ?_⟩) ?_ ?_
        rotate_left
        ·intro w'
         go_simp
         with_reducible rfl
        rotate_left
        ·simp only [Act.put, List.setIfInBounds_toArray, List.set_cons_zero, List.set_cons_succ, i64_w, i32_w]
         rfl
        refine pure_ (i := 19) (N := some 50) (v := ?_) (a' := ?_) #[true, true, true, true, true, true, true, true, true, true, true, true, true, true, true, true, true, true, true, true, false, false, false, false, false, false, false] rfl rfl (any_of HT_.out (by kernel_rfl)) (fun _ _ _ h => h) (Or.inl ⟨by rfl, ?_⟩) ?_ ?_
        rotate_left
        ·intro w'
         go_simp
         with_reducible rfl
        rotate_left
        ·simp only [Act.put, List.setIfInBounds_toArray, List.set_cons_zero, List.set_cons_succ, i64_w, i32_w]
         rfl
        refine pure_ (i := 20) (N := some 51) (v := ?_) (a' := ?_) #[true, true, true, true, true, true, true, true, true, true, true, true, true, true, true, true, true, true, true, true, true, false, false, false, false, false, false] rfl rfl (any_of HT_.out (by kernel_rfl)) (fun _ _ _ h => h) (Or.inl ⟨by rfl, ?_⟩) ?_ ?_
        rotate_left
        ·intro w'
         go_simp
         with_reducible rfl
        rotate_left
        ·simp only [Act.put, List.setIfInBounds_toArray, List.set_cons_zero, List.set_cons_succ, i64_w, i32_w]
         rfl
        refine pure_ (i := 22) (N := some 53) (v := ?_) (a' := ?_) #[true, true, true, true, true, true, true, true, true, true, true, true, true, true, true, true, true, true, true, true, true, false, true, false, false, false, false] rfl rfl (any_of HT_.out (by kernel_rfl)) (fun _ _ _ h => h) (Or.inl ⟨by rfl, ?_⟩) ?_ ?_
        rotate_left
        ·intro w'
         go_simp
         with_reducible rfl
        rotate_left
        ·simp only [Act.put, List.setIfInBounds_toArray, List.set_cons_zero, List.set_cons_succ, i64_w, i32_w]
         rfl
        refine take_ (i := 21) (N := some 52) (v := ?_) (a' := ?_) #[true, true, true, true, true, true, true, true, true, true, true, true, true, true, true, true, true, true, true, true, true, true, true, false, false, false, false] rfl rfl (take_ofW HT_.out HW_.out (by kernel_rfl)) (fun _ _ _ h => h) (Or.inl ⟨by rfl, ?_⟩) hHeld ?_ ?_
        rotate_left
        ·rintro w' ⟨s0, s1, s2, s3, s4, s5, s6, s7, s8, s9, s10, s11, s12, s13, s14, s15, s16, s17⟩
         go_simp
         with_reducible rfl
        rotate_left
        ·simp only [Act.put, List.setIfInBounds_toArray, List.set_cons_zero, List.set_cons_succ, i64_w, i32_w]
         rfl
        refine take_ (i := 23) (N := some 54) (v := ?_) (a' := ?_) #[true, true, true, true, true, true, true, true, true, true, true, true, true, true, true, true, true, true, true, true, true, true, true, true, false, false, false] rfl rfl (take_ofW HT_.out HW_.out (by kernel_rfl)) (fun _ _ _ h => h) (Or.inl ⟨by rfl, ?_⟩) hHeld ?_ ?_
        rotate_left
        ·rintro w' ⟨s0, s1, s2, s3, s4, s5, s6, s7, s8, s9, s10, s11, s12, s13, s14, s15, s16, s17⟩
         go_simp
         with_reducible rfl
        rotate_left
        ·simp only [Act.put, List.setIfInBounds_toArray, List.set_cons_zero, List.set_cons_succ, i64_w, i32_w]
         rfl
        refine pure_ (i := 24) (N := some 55) (v := ?_) (a' := ?_) #[true, true, true, true, true, true, true, true, true, true, true, true, true, true, true, true, true, true, true, true, true, true, true, true, true, false, false] rfl rfl (any_of HT_.out (by kernel_rfl)) (fun _ _ _ h => h) (Or.inl ⟨by rfl, ?_⟩) ?_ ?_
        rotate_left
        ·intro w'
         go_simp
         with_reducible rfl
        rotate_left
        ·simp only [Act.put, List.setIfInBounds_toArray, List.set_cons_zero, List.set_cons_succ, i64_w, i32_w]
         rfl
        refine pure_ (i := 25) (N := some 56) (v := ?_) (a' := ?_) #[true, true, true, true, true, true, true, true, true, true, true, true, true, true, true, true, true, true, true, true, true, true, true, true, true, true, false] rfl rfl (any_of HT_.out (by kernel_rfl)) (fun _ _ _ h => h) (Or.inl ⟨by rfl, ?_⟩) ?_ ?_
        rotate_left
        ·intro w'
         go_simp
         with_reducible rfl
        rotate_left
        ·simp only [Act.put, List.setIfInBounds_toArray, List.set_cons_zero, List.set_cons_succ, i64_w, i32_w]
         rfl
        refine pure_ (i := 26) (N := some 57) (v := ?_) (a' := ?_) #[true, true, true, true, true, true, true, true, true, true, true, true, true, true, true, true, true, true, true, true, true, true, true, true, true, true, true] rfl rfl (any_of HT_.out (by kernel_rfl)) (fun _ _ _ h => h) (Or.inl ⟨by rfl, ?_⟩) ?_ ?_
        rotate_left
        ·intro w'
         go_simp
         with_reducible rfl
        rotate_left
        ·simp only [Act.put, List.setIfInBounds_toArray, List.set_cons_zero, List.set_cons_succ, i64_w, i32_w]
         rfl
        refine done_ (done_of HT_.out (by kernel_rfl)) ?_
        try go_wp2
        go_meet
        case rel => exact ⟨_, ((t298 != a0_3)), (by first | rfl | (simp; done) | (simp [*]; done)), H', ⟨by first | omega | exact Nat.le_refl _⟩, ⟨by (with_reducible repeat apply pV); exact HO297.out⟩, ⟨by (with_reducible repeat apply pV); exact HO297.out⟩, ⟨by (with_reducible repeat apply pK); exact BK289.out⟩, ⟨by (with_reducible repeat apply pK); exact BK302.out⟩, ⟨by (with_reducible repeat apply pK); exact BK303.out⟩, ⟨bl_⟩⟩
     ·replace c27 := Bool.eq_false_iff.mpr c27
      subst c27
      have H1 : (none) = some r := by rw [if_neg (show ¬ (false = true) by decide)] at H; exact H
      clear H
      have H := H1
      clear H1
      exact absurd H (by simp)
    ·replace c25 := Bool.eq_false_iff.mpr c25
     subst c25
     have H1 : (none) = some r := by rw [if_neg (show ¬ (false = true) by decide)] at H; exact H
     clear H
     have H := H1
     clear H1
     exact absurd H (by simp)
   case rest =>
    clear HC8
    try clear c1
    try clear c2
    try clear p2
    try clear c3
    try clear q3
    try clear p6
    try clear c12
    try clear c15
    try clear c25
    try clear c27
    try clear q30
    try clear c33
    try clear c33b0
    try clear c33b1
    try clear c33b2
    try clear q306
    obtain ⟨kq, x57_7, rfl, HA, HJ7, HO_303002, HO_304002, BK289, BK302, BK303, HB⟩ := hcut
    cases kq with
    | zero => exact absurd HA.out (by simp [shutterlaw15_MoveAlone.j0])
    | succ kj7 =>
     have H := HA.out
     clear HA
     simp only [shutterlaw15_MoveAlone.j0] at H
     by_cases c38 : x57_7 = true
     ·subst c38
      have H1 : (none) = some r := by rw [if_pos rfl] at H; exact H
      clear H
      have H := H1
      clear H1
      exact absurd H (by simp)
     ·replace c38 := Bool.eq_false_iff.mpr c38
      subst c38
      have H1 : (if t301.isNone = true then (if (wrap64 (2 + (wrap64 (Int.tmod a1 8)))) < 6 then (some true) else ((shutterref11_Next.f kj7 a0_0 a0_1 l0_2 a0_3 a0_4 a0_5 0).bind fun t308 => (if t308 < 0 then (some true) else ((shutterref11_Open.f kj7 t293 t294 t295 t298 t299 t300 t298).bind fun t309 => (some t309))))) else (some true)) = some r := by rw [if_neg (show ¬ (false = true) by decide)] at H; exact H
      clear H
      have H := H1
      clear H1
      rcases t301 with _ | q307
      ·have H1 : (if (wrap64 (2 + (wrap64 (Int.tmod a1 8)))) < 6 then (some true) else ((shutterref11_Next.f kj7 a0_0 a0_1 l0_2 a0_3 a0_4 a0_5 0).bind fun t308 => (if t308 < 0 then (some true) else ((shutterref11_Open.f kj7 t293 t294 t295 t298 t299 t300 t298).bind fun t309 => (some t309))))) = some r := by rw [if_pos (show (none : Option Int).isNone = true by rfl)] at H; exact H
       clear H
       have H := H1
       clear H1
       try simp only [errW_none, errW_some]
       by_cases c39 : (wrap64 (2 + (wrap64 (Int.tmod a1 8)))) < 6
       ·rw [if_pos c39] at H
        have c39b0 : decide ((wrap64 (2 + (wrap64 (Int.tmod a1 8)))) < 6) = true := decide_eq_true c39
        clear c39
        obtain rfl := Option.some.inj H
        go_wp2
        go_ret
        exact ⟨by first | rfl | (simp [errW_none, errW_some] <;> rfl) | (simp [*, errW_none, errW_some] <;> rfl), bl_⟩
       ·rw [if_neg c39] at H
        have c39b0 : decide ((wrap64 (2 + (wrap64 (Int.tmod a1 8)))) < 6) = false := decide_eq_false c39
        clear c39
        replace H := Option.bind_eq_some_iff.mp H
        obtain ⟨t308, A400, H⟩ := H
        replace H : (if t308 < 0 then (some true) else ((shutterref11_Open.f kj7 t293 t294 t295 t298 t299 t300 t298).bind fun t309 => (some t309))) = some r := H
        have A40 := Aside0.mk A400
        clear A400
        by_cases c41 : t308 < 0
        ·rw [if_pos c41] at H
         have c41b0 : decide (t308 < 0) = true := decide_eq_true c41
         clear c41
         obtain rfl := Option.some.inj H
         have hnb42 := NB289_302.out
         have hnc42 := NB302_289.out
         have hnb43 := NB289_303.out
         have hnc43 := NB303_289.out
         obtain ⟨hcz44_0, hcz44_1, hcz44_2, hcz44_3, hcz44_4, hcz44_5, hfz44_0, hfz44_1, hfz44_2, hfz44_3, hfz44_4, hfz44_5⟩ := cells6 (show wc.heap[gb289]? = some (.cells #[.int .i64 a0_0, .int .i64 a0_1, .slice A0_2 l0_2.length c0_2, .int .i64 a0_3, .bool a0_4, .bool a0_5] _ (0, 0)) from BK289.out)
         go_wp2_with (first | (go_at_call 16; (with_reducible refine (shutterref11_Next.calls kj7 a0_0 a0_1 _ _ l0_2 a0_3 a0_4 a0_5 0 t308 _ ?side1 ?side2 A40.out).mono ?_); (case side1 => repeat (first | exact (Kd.C_below HR0_2.out HB.out) | (with_reducible apply pC))); (case side2 => exact HC0_2.out); rintro e w45 ⟨rfl, hb⟩; have n0_ := Aside0.mk (Kd.V_below (by (with_reducible repeat apply pV); exact HO_303002.out) hb); have n1_ := Aside0.mk (Kd.V_below (by (with_reducible repeat apply pV); exact HO_304002.out) hb); have n2_ := Aside0.mk (blk_below (g := gb289) (o := .cells #[.int .i64 a0_0, .int .i64 a0_1, .slice A0_2 l0_2.length c0_2, .int .i64 a0_3, .bool a0_4, .bool a0_5] 24 (0, 0)) (by (with_reducible repeat apply pK); exact BK289.out) hb); have n3_ := Aside0.mk (blk_below (g := gb302) (o := .cells #[.int .i64 t293, .int .i64 t294, .slice Ao18 t295.length co18, .int .i64 t298, .bool t299, .bool t300] 24 (0, 0)) (by (with_reducible repeat apply pK); exact BK302.out) hb); have n4_ := Aside0.mk (blk_below (g := gb303) (o := .cells #[.int .i64 t293, .int .i64 t294, .slice Ao18 t295.length co18, .int .i64 a0_3, .bool t299, .bool t300] 24 (0, 0)) (by (with_reducible repeat apply pK); exact BK303.out) hb); have n5_ := Aside0.mk (below_step bl_ hb); clear HO_303002; clear HO_304002; clear BK289; clear BK302; clear BK303; clear HB; have HO_303002 := n0_; have HO_304002 := n1_; have BK289 := n2_; have BK302 := n3_; have BK303 := n4_; have HB := n5_; clear n0_ n1_ n2_ n3_ n4_ n5_; (try clear hb); (try clear hb2); (try clear hk); (try clear hi)))
         go_ret
         exact ⟨by first | rfl | (simp [errW_none, errW_some] <;> rfl) | (simp [*, errW_none, errW_some] <;> rfl), bl_⟩
        ·rw [if_neg c41] at H
         have c41b0 : decide (t308 < 0) = false := decide_eq_false c41
         clear c41
         replace H := Option.bind_eq_some_iff.mp H
         obtain ⟨t309, A460, H⟩ := H
         replace H : (some t309) = some r := H
         have A46 := Aside0.mk A460
         clear A460
         obtain rfl := Option.some.inj H
         have hnb47 := NB289_302.out
         have hnc47 := NB302_289.out
         have hnb48 := NB289_303.out
         have hnc48 := NB303_289.out
         obtain ⟨hcz49_0, hcz49_1, hcz49_2, hcz49_3, hcz49_4, hcz49_5, hfz49_0, hfz49_1, hfz49_2, hfz49_3, hfz49_4, hfz49_5⟩ := cells6 (show wc.heap[gb289]? = some (.cells #[.int .i64 a0_0, .int .i64 a0_1, .slice A0_2 l0_2.length c0_2, .int .i64 a0_3, .bool a0_4, .bool a0_5] _ (0, 0)) from BK289.out)
         go_wp2_with (first | (go_at_call 16; (with_reducible refine (shutterref11_Next.calls kj7 a0_0 a0_1 _ _ l0_2 a0_3 a0_4 a0_5 0 t308 _ ?side1 ?side2 A40.out).mono ?_); (case side1 => repeat (first | exact (Kd.C_below HR0_2.out HB.out) | (with_reducible apply pC))); (case side2 => exact HC0_2.out); rintro e w50 ⟨rfl, hb⟩; have n0_ := Aside0.mk (Kd.V_below (by (with_reducible repeat apply pV); exact HO_303002.out) hb); have n1_ := Aside0.mk (Kd.V_below (by (with_reducible repeat apply pV); exact HO_304002.out) hb); have n2_ := Aside0.mk (blk_below (g := gb289) (o := .cells #[.int .i64 a0_0, .int .i64 a0_1, .slice A0_2 l0_2.length c0_2, .int .i64 a0_3, .bool a0_4, .bool a0_5] 24 (0, 0)) (by (with_reducible repeat apply pK); exact BK289.out) hb); have n3_ := Aside0.mk (blk_below (g := gb302) (o := .cells #[.int .i64 t293, .int .i64 t294, .slice Ao18 t295.length co18, .int .i64 t298, .bool t299, .bool t300] 24 (0, 0)) (by (with_reducible repeat apply pK); exact BK302.out) hb); have n4_ := Aside0.mk (blk_below (g := gb303) (o := .cells #[.int .i64 t293, .int .i64 t294, .slice Ao18 t295.length co18, .int .i64 a0_3, .bool t299, .bool t300] 24 (0, 0)) (by (with_reducible repeat apply pK); exact BK303.out) hb); have n5_ := Aside0.mk (below_step bl_ hb); clear HO_303002; clear HO_304002; clear BK289; clear BK302; clear BK303; clear HB; have HO_303002 := n0_; have HO_304002 := n1_; have BK289 := n2_; have BK302 := n3_; have BK303 := n4_; have HB := n5_; clear n0_ n1_ n2_ n3_ n4_ n5_; (try clear hb); (try clear hb2); (try clear hk); (try clear hi); have hnb51 := NB302_303.out; have hnc51 := NB303_302.out; obtain ⟨hcz52_0, hcz52_1, hcz52_2, hcz52_3, hcz52_4, hcz52_5, hfz52_0, hfz52_1, hfz52_2, hfz52_3, hfz52_4, hfz52_5⟩ := cells6 (show w50.heap[gb302]? = some (.cells #[.int .i64 t293, .int .i64 t294, .slice Ao18 t295.length co18, .int .i64 t298, .bool t299, .bool t300] _ (0, 0)) from BK302.out)) | ((with_reducible refine gate_callee (f := 17) rfl ?_); refine goesL_ (some 72) rfl rfl Tryd.func17 (by kernel_rfl) rfl #[.agg #[.int .i64 t293, .int .i64 t294, .slice Ao18 t295.length co18, .int .i64 t298, .bool t299, .bool t300], .int .i64 t298] rfl ag_ ?_; (with_reducible refine (shutterref11_Open.calls kj7 t293 t294 _ _ t295 t298 t299 t300 t298 t309 _ ?side1 ?side2 A46.out).mono ?_); (case side1 => repeat (first | exact (Kd.V_reads' HO_303002.out).2.2 | (with_reducible apply pC))); (case side2 => exact (Kd.V_reads' HO_303002.out).2.1); rintro e w53 ⟨rfl, hb⟩; refine ⟨_, rfl, ?_⟩; have n0_ := Aside0.mk (Kd.V_below (by (with_reducible repeat apply pV); exact HO_303002.out) hb); have n1_ := Aside0.mk (Kd.V_below (by (with_reducible repeat apply pV); exact HO_304002.out) hb); have n2_ := Aside0.mk (blk_below (g := gb289) (o := .cells #[.int .i64 a0_0, .int .i64 a0_1, .slice A0_2 l0_2.length c0_2, .int .i64 a0_3, .bool a0_4, .bool a0_5] 24 (0, 0)) (by (with_reducible repeat apply pK); exact BK289.out) hb); have n3_ := Aside0.mk (blk_below (g := gb302) (o := .cells #[.int .i64 t293, .int .i64 t294, .slice Ao18 t295.length co18, .int .i64 t298, .bool t299, .bool t300] 24 (0, 0)) (by (with_reducible repeat apply pK); exact BK302.out) hb); have n4_ := Aside0.mk (blk_below (g := gb303) (o := .cells #[.int .i64 t293, .int .i64 t294, .slice Ao18 t295.length co18, .int .i64 a0_3, .bool t299, .bool t300] 24 (0, 0)) (by (with_reducible repeat apply pK); exact BK303.out) hb); have n5_ := Aside0.mk (below_step bl_ hb); clear HO_303002; clear HO_304002; clear BK289; clear BK302; clear BK303; clear HB; have HO_303002 := n0_; have HO_304002 := n1_; have BK289 := n2_; have BK302 := n3_; have BK303 := n4_; have HB := n5_; clear n0_ n1_ n2_ n3_ n4_ n5_; (try clear hb); (try clear hb2); (try clear hk); (try clear hi)))
         go_ret
         exact ⟨by first | rfl | (simp [errW_none, errW_some] <;> rfl) | (simp [*, errW_none, errW_some] <;> rfl), bl_⟩
      ·have H1 : (some true) = some r := by rw [if_neg (show ¬ (some q307).isNone = true by simp)] at H; exact H
       clear H
       have H := H1
       clear H1
       try simp only [errW_none, errW_some]
       obtain rfl := Option.some.inj H
       go_wp2
       go_ret
       exact ⟨by first | rfl | (simp [errW_none, errW_some] <;> rfl) | (simp [*, errW_none, errW_some] <;> rfl), bl_⟩
  ·replace c6 := Bool.eq_false_iff.mpr c6
   subst c6
   have H1 : ((shutterlaw15_awake.f k).bind fun t292 => (some t292)) = some r := by rw [if_neg (show ¬ (false = true) by decide)] at H; exact H
   clear H
   have H := H1
   clear H1
   replace H := Option.bind_eq_some_iff.mp H
   obtain ⟨t292, A540, H⟩ := H
   replace H : (some t292) = some r := H
   have A54 := Aside0.mk A540
   clear A540
   obtain rfl := Option.some.inj H
   go_enter Tryd.func4, Tryd.ntmps4
   go_wp2_with (first | ((with_reducible refine gate_dst (N := 2) rfl ?_); refine box_event ?hg (N := 2) ?hd (cs := #[.int .i64 a0_0, .int .i64 a0_1, .slice A0_2 l0_2.length c0_2, .int .i64 a0_3, .bool a0_4, .bool a0_5]) (t := 24) ?hr ?_; (case hd => rfl); (case hg => rfl); (case hr => first | (go_simp; done) | (go_simp; rfl)); intro gb289 hg w55 hbox hb; have n0_ := Aside0.mk (below_step bl_ hb); have n1_ := Aside0.mk (hbox); have n2_ := Aside0.mk ((le_new hg (below_size bl_) : w.heap.size ≤ gb289)); have n3_ := Aside0.mk ((le_new hg (below_size bl_) : w.heap.size ≤ gb289)); clear HB; have HB := n0_; have BK289 := n1_; have GW289 := n2_; have GE289 := n3_; clear n0_ n1_ n2_ n3_; clear hb hbox hg) | ((with_reducible refine gate_callee (f := 8) rfl ?_); refine goesL_ (some 9) rfl rfl Tryd.func8 (by kernel_rfl) rfl #[] rfl ag_ ?_; (with_reducible refine (shutterlaw15_awake.calls k  true _ ?sideG A3.out).mono ?_); (case sideG => exact laidG_below HG.out bl_ rfl); rintro e w56 ⟨rfl, hb⟩; refine ⟨_, rfl, ?_⟩; have n0_ := Aside0.mk (blk_below (g := gb289) (o := .cells #[.int .i64 a0_0, .int .i64 a0_1, .slice A0_2 l0_2.length c0_2, .int .i64 a0_3, .bool a0_4, .bool a0_5] 24 (0, 0)) (by (with_reducible repeat apply pK); exact BK289.out) hb); have n1_ := Aside0.mk (below_step bl_ hb); clear BK289; clear HB; have BK289 := n0_; have HB := n1_; clear n0_ n1_; (try clear hb); (try clear hb2); (try clear hk); (try clear hi); obtain ⟨hcz57_0, hcz57_1, hcz57_2, hcz57_3, hcz57_4, hcz57_5, hfz57_0, hfz57_1, hfz57_2, hfz57_3, hfz57_4, hfz57_5⟩ := cells6 (show w56.heap[gb289]? = some (.cells #[.int .i64 a0_0, .int .i64 a0_1, .slice A0_2 l0_2.length c0_2, .int .i64 a0_3, .bool a0_4, .bool a0_5] _ (0, 0)) from BK289.out)) | (go_at_call 9; (with_reducible refine (shutterref10_Few.calls k a0_0 a0_1 _ _ l0_2 a0_3 a0_4 a0_5 false _ ?side1 ?side2 A5.out).mono ?_); (case side1 => repeat (first | exact (Kd.C_below HR0_2.out HB.out) | (with_reducible apply pC))); (case side2 => exact HC0_2.out); rintro e w58 ⟨rfl, hb⟩; have n0_ := Aside0.mk (blk_below (g := gb289) (o := .cells #[.int .i64 a0_0, .int .i64 a0_1, .slice A0_2 l0_2.length c0_2, .int .i64 a0_3, .bool a0_4, .bool a0_5] 24 (0, 0)) (by (with_reducible repeat apply pK); exact BK289.out) hb); have n1_ := Aside0.mk (below_step bl_ hb); clear BK289; clear HB; have BK289 := n0_; have HB := n1_; clear n0_ n1_; (try clear hb); (try clear hb2); (try clear hk); (try clear hi)) | ((with_reducible refine gate_callee (f := 8) rfl ?_); refine goesL_ (some 16) rfl rfl Tryd.func8 (by kernel_rfl) rfl #[] rfl ag_ ?_; (with_reducible refine (shutterlaw15_awake.calls k  t292 _ ?sideG A54.out).mono ?_); (case sideG => exact laidG_below HG.out bl_ rfl); rintro e w59 ⟨rfl, hb⟩; refine ⟨_, rfl, ?_⟩; have n0_ := Aside0.mk (blk_below (g := gb289) (o := .cells #[.int .i64 a0_0, .int .i64 a0_1, .slice A0_2 l0_2.length c0_2, .int .i64 a0_3, .bool a0_4, .bool a0_5] 24 (0, 0)) (by (with_reducible repeat apply pK); exact BK289.out) hb); have n1_ := Aside0.mk (below_step bl_ hb); clear BK289; clear HB; have BK289 := n0_; have HB := n1_; clear n0_ n1_; (try clear hb); (try clear hb2); (try clear hk); (try clear hi)))
   go_ret
   exact ⟨by first | rfl | (simp [errW_none, errW_some] <;> rfl) | (simp [*, errW_none, errW_some] <;> rfl), bl_⟩
 ·replace c4 := Bool.eq_false_iff.mpr c4
  subst c4
  have H1 : (none) = some r := by rw [if_neg (show ¬ (false = true) by decide)] at H; exact H
  clear H
  have H := H1
  clear H1
  exact absurd H (by simp)

end Go.Proofs.YtapcfcagjlmgjaaDoor.P
