/- The functions of the seat's laws as plain Lean functions, and that Go's code comes to just their answers. Written by pp.py (wip/tools), a program of this session, on the kit's print. -/
import Derived.Test.YtggecanpjkpkiaaDoorPx0
import Derived.Test.YtggecanpjkpkiaaDoorPx4
import Derived.Test.YtggecanpjkpkiaaDoorPx9
import Derived.Test.YtggecanpjkpkiaaDoorPx10
import Derived.Test.YtggecanpjkpkiaaDoorPx11
namespace Go.Proofs.YtggecanpjkpkiaaDoor.P
open Go.RowKit Go.Proofs.YtggecanpjkpkiaaDoorW.PrintWords Go.Proofs.YtggecanpjkpkiaaDoorW.PrintLast Go.Proofs.YtggecanpjkpkiaaDoorW.PrintMore
attribute [local go_sem] max2_int min2_int max_two min_two max_three min_three max_four min_four   -- for this text's walks alone
attribute [local go_sem] Instr.field asAgg
set_option linter.unusedVariables false
set_option linter.unusedSimpArgs false

/-! ### shutterlaw14_EditInserts: function 7 -/
mutual
def shutterlaw14_EditInserts.l0 : Nat → Int → List Int → List Int → Bool → Int → Int → Int → List (S35) → Int → Bool → Bool → Int → Int → List (S35) → Int → Bool → Bool → Option (Bool)
 | 0, _, _, _, _, _, _, _, _, _, _, _, _, _, _, _, _, _ => none
 | k + 1, x1, x7, x8, x9, x10, x355000, x355001, x355002, x355003, x355004, x355005, x371000, x371001, x371002, x371003, x371004, x371005 => if x10 < (x7.length : Int) then (if 0 ≤ x10 then (if 0 ≤ (rd x7 x10) then (if (rd x7 x10) < (x355002.length : Int) then (if ((rd_T35 x355002 (rd x7 x10)).f2) = 0 then (if x9 = true then (if x8.length < 140737488355328 then (shutterlaw14_EditInserts.l0 k x1 x7 (x8 ++ [(rd_T35 x355002 (rd x7 x10)).f2]) x9 (wrap64 (x10 + 1)) x355000 x355001 x355002 x355003 x355004 x355005 x371000 x371001 x371002 x371003 x371004 x371005) else (none)) else (shutterlaw14_EditInserts.l0 k x1 x7 x8 true (wrap64 (x10 + 1)) x355000 x355001 x355002 x355003 x355004 x355005 x371000 x371001 x371002 x371003 x371004 x371005)) else (if x8.length < 140737488355328 then (shutterlaw14_EditInserts.l0 k x1 x7 (x8 ++ [(rd_T35 x355002 (rd x7 x10)).f2]) x9 (wrap64 (x10 + 1)) x355000 x355001 x355002 x355003 x355004 x355005 x371000 x371001 x371002 x371003 x371004 x371005) else (none))) else (none)) else (none)) else (none)) else (if x9 = true then (if (x7.length : Int) = 0 then (none) else (if (wrap64 ((x8.length : Int) + 1)) = (x7.length : Int) then (if 0 < (x7.length : Int) then (if 0 ≤ (rd x7 0) then (if (rd x7 0) < (x371002.length : Int) then (if ((rd_T35 x371002 (rd x7 0)).f2) = x1 then (shutterlaw14_EditInserts.l1 k x7 x8 0 x371000 x371001 x371002 x371003 x371004 x371005) else (none)) else (none)) else (none)) else (none)) else (none))) else (none))
def shutterlaw14_EditInserts.l1 : Nat → List Int → List Int → Int → Int → Int → List (S35) → Int → Bool → Bool → Option (Bool)
 | 0, _, _, _, _, _, _, _, _, _ => none
 | k + 1, x7, x8, x12, x371000, x371001, x371002, x371003, x371004, x371005 => if x12 < (x8.length : Int) then (if 0 ≤ (wrap64 (x12 + 1)) then (if (wrap64 (x12 + 1)) < (x7.length : Int) then (if 0 ≤ (rd x7 (wrap64 (x12 + 1))) then (if (rd x7 (wrap64 (x12 + 1))) < (x371002.length : Int) then (if 0 ≤ x12 then (if ((rd_T35 x371002 (rd x7 (wrap64 (x12 + 1)))).f2) = (rd x8 x12) then (shutterlaw14_EditInserts.l1 k x7 x8 (wrap64 (x12 + 1)) x371000 x371001 x371002 x371003 x371004 x371005) else (none)) else (none)) else (none)) else (none)) else (none)) else (none)) else (some true)
end
def shutterlaw14_EditInserts.f (k : Nat) (a0_0 : Int) (a0_1 : Int) (l0_2 : List (S35)) (a0_3 : Int) (a0_4 : Bool) (a0_5 : Bool) (a1 : Int) : Option (Bool) := (shutterlaw14_awake.f k).bind fun t355 => (if t355 = true then ((shutterref10_Few.f k a0_0 a0_1 l0_2 a0_3 a0_4 a0_5).bind fun t356 => (if t356 = true then ((edit_Type.f k a0_0 a0_1 l0_2 a0_3 false true a1).bind fun bt358 => (if bt358.2.2.2.2.2.2.1.isNone = true then ((shutterref14_Line.f k a0_0 a0_1 l0_2 a0_3 false true a0_3).bind fun t372 => (shutterlaw14_EditInserts.l0 k a1 t372 ([] : List Int) false 0 a0_0 a0_1 l0_2 a0_3 false true bt358.1 bt358.2.1 bt358.2.2.1 bt358.2.2.2.1 bt358.2.2.2.2.1 bt358.2.2.2.2.2.1)) else (some true))) else ((shutterlaw14_awake.f k).bind fun t357 => (some t357)))) else (none))
theorem shutterlaw14_EditInserts.mono_l : ∀ k, (∀ y0 y1 y2 y3 y4 y5 y6 y7 y8 y9 y10 y11 y12 y13 y14 y15 y16, LeO (shutterlaw14_EditInserts.l0 k y0 y1 y2 y3 y4 y5 y6 y7 y8 y9 y10 y11 y12 y13 y14 y15 y16) (shutterlaw14_EditInserts.l0 (k + 1) y0 y1 y2 y3 y4 y5 y6 y7 y8 y9 y10 y11 y12 y13 y14 y15 y16)) ∧ (∀ y0 y1 y2 y3 y4 y5 y6 y7 y8, LeO (shutterlaw14_EditInserts.l1 k y0 y1 y2 y3 y4 y5 y6 y7 y8) (shutterlaw14_EditInserts.l1 (k + 1) y0 y1 y2 y3 y4 y5 y6 y7 y8))
 | 0 => ⟨fun _ _ _ _ _ _ _ _ _ _ _ _ _ _ _ _ _ r h => by simp [shutterlaw14_EditInserts.l0] at h, fun _ _ _ _ _ _ _ _ _ r h => by simp [shutterlaw14_EditInserts.l1] at h⟩
 | k + 1 => by
  obtain ⟨ih0, ih1⟩ := shutterlaw14_EditInserts.mono_l k
  refine ⟨?_, ?_⟩
  ·intro y0 y1 y2 y3 y4 y5 y6 y7 y8 y9 y10 y11 y12 y13 y14 y15 y16
   unfold shutterlaw14_EditInserts.l0
   repeat' first
   | (with_reducible exact ih0 _ _ _ _ _ _ _ _ _ _ _ _ _ _ _ _ _)
   | (with_reducible exact ih1 _ _ _ _ _ _ _ _ _)
   | (with_reducible exact edit_Type.mono _ _ _ _ _ _ _ _)
   | (with_reducible exact shutterlaw14_awake.mono _)
   | (with_reducible exact shutterref10_Few.mono _ _ _ _ _ _ _)
   | (with_reducible exact shutterref14_Line.mono _ _ _ _ _ _ _ _)
   | (with_reducible exact LeO.refl _)
   | (with_reducible exact LeO.none _)
   | (with_reducible refine LeO.ite ?_ ?_)
   | (with_reducible refine LeO.bind ?_ (fun _ => ?_))
   | exact ih0 _ _ _ _ _ _ _ _ _ _ _ _ _ _ _ _ _
   | exact ih1 _ _ _ _ _ _ _ _ _
   | exact edit_Type.mono _ _ _ _ _ _ _ _
   | exact shutterlaw14_awake.mono _
   | exact shutterref10_Few.mono _ _ _ _ _ _ _
   | exact shutterref14_Line.mono _ _ _ _ _ _ _ _
   | exact LeO.none _
   | refine LeO.ite ?_ ?_
   | refine LeO.bind ?_ (fun _ => ?_)
  ·intro y0 y1 y2 y3 y4 y5 y6 y7 y8
   unfold shutterlaw14_EditInserts.l1
   repeat' first
   | (with_reducible exact ih0 _ _ _ _ _ _ _ _ _ _ _ _ _ _ _ _ _)
   | (with_reducible exact ih1 _ _ _ _ _ _ _ _ _)
   | (with_reducible exact edit_Type.mono _ _ _ _ _ _ _ _)
   | (with_reducible exact shutterlaw14_awake.mono _)
   | (with_reducible exact shutterref10_Few.mono _ _ _ _ _ _ _)
   | (with_reducible exact shutterref14_Line.mono _ _ _ _ _ _ _ _)
   | (with_reducible exact LeO.refl _)
   | (with_reducible exact LeO.none _)
   | (with_reducible refine LeO.ite ?_ ?_)
   | (with_reducible refine LeO.bind ?_ (fun _ => ?_))
   | exact ih0 _ _ _ _ _ _ _ _ _ _ _ _ _ _ _ _ _
   | exact ih1 _ _ _ _ _ _ _ _ _
   | exact edit_Type.mono _ _ _ _ _ _ _ _
   | exact shutterlaw14_awake.mono _
   | exact shutterref10_Few.mono _ _ _ _ _ _ _
   | exact shutterref14_Line.mono _ _ _ _ _ _ _ _
   | exact LeO.none _
   | refine LeO.ite ?_ ?_
   | refine LeO.bind ?_ (fun _ => ?_)
theorem shutterlaw14_EditInserts.mono : ∀ a0 a1 a2 a3 a4 a5 a6 k, LeO (shutterlaw14_EditInserts.f k a0 a1 a2 a3 a4 a5 a6) (shutterlaw14_EditInserts.f (k + 1) a0 a1 a2 a3 a4 a5 a6) := by
 intro a0 a1 a2 a3 a4 a5 a6 k
 obtain ⟨ih0, ih1⟩ := shutterlaw14_EditInserts.mono_l k
 unfold shutterlaw14_EditInserts.f
 repeat' first
   | (with_reducible exact ih0 _ _ _ _ _ _ _ _ _ _ _ _ _ _ _ _ _)
   | (with_reducible exact ih1 _ _ _ _ _ _ _ _ _)
   | (with_reducible exact edit_Type.mono _ _ _ _ _ _ _ _)
   | (with_reducible exact shutterlaw14_awake.mono _)
   | (with_reducible exact shutterref10_Few.mono _ _ _ _ _ _ _)
   | (with_reducible exact shutterref14_Line.mono _ _ _ _ _ _ _ _)
   | (with_reducible exact LeO.refl _)
   | (with_reducible exact LeO.none _)
   | (with_reducible refine LeO.ite ?_ ?_)
   | (with_reducible refine LeO.bind ?_ (fun _ => ?_))
   | exact ih0 _ _ _ _ _ _ _ _ _ _ _ _ _ _ _ _ _
   | exact ih1 _ _ _ _ _ _ _ _ _
   | exact edit_Type.mono _ _ _ _ _ _ _ _
   | exact shutterlaw14_awake.mono _
   | exact shutterref10_Few.mono _ _ _ _ _ _ _
   | exact shutterref14_Line.mono _ _ _ _ _ _ _ _
   | exact LeO.none _
   | refine LeO.ite ?_ ?_
   | refine LeO.bind ?_ (fun _ => ?_)
set_option maxHeartbeats 8000000 in
set_option maxRecDepth 100000 in
theorem shutterlaw14_EditInserts.calls (k : Nat) (a0_0 : Int) (a0_1 : Int) (A0_2 : Option Addr) (c0_2 : Nat) (l0_2 : List (S35)) (a0_3 : Int) (a0_4 : Bool) (a0_5 : Bool) (a1 : Int) (r : Bool) (w : World) (hr0_2 : Kd.C k35 w A0_2 l0_2.length l0_2) (hc0_2 : l0_2.length ≤ c0_2) (hG : LaidG w) (h : shutterlaw14_EditInserts.f k a0_0 a0_1 l0_2 a0_3 a0_4 a0_5 a1 = some r) :
  Calls Tryd.prog 7 #[.agg #[.int .i64 a0_0, .int .i64 a0_1, .slice A0_2 l0_2.length c0_2, .int .i64 a0_3, .bool a0_4, .bool a0_5], .int .u8 a1] w fun e w' => e = .returned (.bool r) ∧ Below w.heap.size w w' := by
 have HG := Aside0.mk hG
 clear hG
 have hu24 := Tryd.underlying24
 have hu28 := Tryd.underlying28
 have hu52 := Tryd.underlying52
 have HR0_2 := Aside0.mk hr0_2
 have HC0_2 := Aside0.mk hc0_2
 clear hr0_2 hc0_2
 have HB := Aside0.mk (Below.refl w.heap.size w)
 have H : ((shutterlaw14_awake.f k).bind fun t355 => (if t355 = true then ((shutterref10_Few.f k a0_0 a0_1 l0_2 a0_3 a0_4 a0_5).bind fun t356 => (if t356 = true then ((edit_Type.f k a0_0 a0_1 l0_2 a0_3 false true a1).bind fun bt358 => (if bt358.2.2.2.2.2.2.1.isNone = true then ((shutterref14_Line.f k a0_0 a0_1 l0_2 a0_3 false true a0_3).bind fun t372 => (shutterlaw14_EditInserts.l0 k a1 t372 ([] : List Int) false 0 a0_0 a0_1 l0_2 a0_3 false true bt358.1 bt358.2.1 bt358.2.2.1 bt358.2.2.2.1 bt358.2.2.2.2.1 bt358.2.2.2.2.2.1)) else (some true))) else ((shutterlaw14_awake.f k).bind fun t357 => (some t357)))) else (none))) = some r := h
 clear h
 replace H := Option.bind_eq_some_iff.mp H
 obtain ⟨t355, A30, H⟩ := H
 replace H : (if t355 = true then ((shutterref10_Few.f k a0_0 a0_1 l0_2 a0_3 a0_4 a0_5).bind fun t356 => (if t356 = true then ((edit_Type.f k a0_0 a0_1 l0_2 a0_3 false true a1).bind fun bt358 => (if bt358.2.2.2.2.2.2.1.isNone = true then ((shutterref14_Line.f k a0_0 a0_1 l0_2 a0_3 false true a0_3).bind fun t372 => (shutterlaw14_EditInserts.l0 k a1 t372 ([] : List Int) false 0 a0_0 a0_1 l0_2 a0_3 false true bt358.1 bt358.2.1 bt358.2.2.1 bt358.2.2.2.1 bt358.2.2.2.2.1 bt358.2.2.2.2.2.1)) else (some true))) else ((shutterlaw14_awake.f k).bind fun t357 => (some t357)))) else (none)) = some r := H
 have A3 := Aside0.mk A30
 clear A30
 by_cases c4 : t355 = true
 ·subst c4
  have H1 : ((shutterref10_Few.f k a0_0 a0_1 l0_2 a0_3 a0_4 a0_5).bind fun t356 => (if t356 = true then ((edit_Type.f k a0_0 a0_1 l0_2 a0_3 false true a1).bind fun bt358 => (if bt358.2.2.2.2.2.2.1.isNone = true then ((shutterref14_Line.f k a0_0 a0_1 l0_2 a0_3 false true a0_3).bind fun t372 => (shutterlaw14_EditInserts.l0 k a1 t372 ([] : List Int) false 0 a0_0 a0_1 l0_2 a0_3 false true bt358.1 bt358.2.1 bt358.2.2.1 bt358.2.2.2.1 bt358.2.2.2.2.1 bt358.2.2.2.2.2.1)) else (some true))) else ((shutterlaw14_awake.f k).bind fun t357 => (some t357)))) = some r := by rw [if_pos rfl] at H; exact H
  clear H
  have H := H1
  clear H1
  replace H := Option.bind_eq_some_iff.mp H
  obtain ⟨t356, A50, H⟩ := H
  replace H : (if t356 = true then ((edit_Type.f k a0_0 a0_1 l0_2 a0_3 false true a1).bind fun bt358 => (if bt358.2.2.2.2.2.2.1.isNone = true then ((shutterref14_Line.f k a0_0 a0_1 l0_2 a0_3 false true a0_3).bind fun t372 => (shutterlaw14_EditInserts.l0 k a1 t372 ([] : List Int) false 0 a0_0 a0_1 l0_2 a0_3 false true bt358.1 bt358.2.1 bt358.2.2.1 bt358.2.2.2.1 bt358.2.2.2.2.1 bt358.2.2.2.2.2.1)) else (some true))) else ((shutterlaw14_awake.f k).bind fun t357 => (some t357))) = some r := H
  have A5 := Aside0.mk A50
  clear A50
  by_cases c6 : t356 = true
  ·subst c6
   have H1 : ((edit_Type.f k a0_0 a0_1 l0_2 a0_3 false true a1).bind fun bt358 => (if bt358.2.2.2.2.2.2.1.isNone = true then ((shutterref14_Line.f k a0_0 a0_1 l0_2 a0_3 false true a0_3).bind fun t372 => (shutterlaw14_EditInserts.l0 k a1 t372 ([] : List Int) false 0 a0_0 a0_1 l0_2 a0_3 false true bt358.1 bt358.2.1 bt358.2.2.1 bt358.2.2.2.1 bt358.2.2.2.2.1 bt358.2.2.2.2.2.1)) else (some true))) = some r := by rw [if_pos rfl] at H; exact H
   clear H
   have H := H1
   clear H1
   replace H := Option.bind_eq_some_iff.mp H
   obtain ⟨⟨t358, t359, t360, t363, t364, t365, t366, t367⟩, A70, H⟩ := H
   replace H : (if t366.isNone = true then ((shutterref14_Line.f k a0_0 a0_1 l0_2 a0_3 false true a0_3).bind fun t372 => (shutterlaw14_EditInserts.l0 k a1 t372 ([] : List Int) false 0 a0_0 a0_1 l0_2 a0_3 false true t358 t359 t360 t363 t364 t365)) else (some true)) = some r := H
   have A7 := Aside0.mk A70
   clear A70
   rcases t366 with _ | q371
   ·have H1 : ((shutterref14_Line.f k a0_0 a0_1 l0_2 a0_3 false true a0_3).bind fun t372 => (shutterlaw14_EditInserts.l0 k a1 t372 ([] : List Int) false 0 a0_0 a0_1 l0_2 a0_3 false true t358 t359 t360 t363 t364 t365)) = some r := by rw [if_pos (show (none : Option Er).isNone = true by rfl)] at H; exact H
    clear H
    have H := H1
    clear H1
    try simp only [errW_none, errW_some]
    replace H := Option.bind_eq_some_iff.mp H
    obtain ⟨t372, A80, H⟩ := H
    replace H : (shutterlaw14_EditInserts.l0 k a1 t372 ([] : List Int) false 0 a0_0 a0_1 l0_2 a0_3 false true t358 t359 t360 t363 t364 t365) = some r := H
    have A8 := Aside0.mk A80
    clear A80
    have H' := Aside0.mk H
    clear H
    go_enter Tryd.func7, Tryd.ntmps7
    go_wp2_with (first | ((with_reducible refine gate_dst (N := 2) rfl ?_); (try (refine gate_guard (by rfl) ?_; dsimp only)); refine box_event ?hg (N := 2) ?hd (cs := #[.int .i64 a0_0, .int .i64 a0_1, .slice A0_2 l0_2.length c0_2, .int .i64 a0_3, .bool a0_4, .bool a0_5]) (t := 24) ?hr ?_; (case hd => rfl); (case hg => rfl); (case hr => first | (go_simp; done) | (go_simp; rfl)); intro gb354 hg w9 hbox hb; have n0_ := Aside0.mk (below_step bl_ hb); have n1_ := Aside0.mk (hbox); have n2_ := Aside0.mk ((le_new hg (below_size bl_) : w.heap.size ≤ gb354)); have n3_ := Aside0.mk ((le_new hg (below_size bl_) : w.heap.size ≤ gb354)); clear HB; have HB := n0_; have BK354 := n1_; have GW354 := n2_; have GE354 := n3_; clear n0_ n1_ n2_ n3_; clear hb hbox hg) | (go_at_call 30; (with_reducible refine (shutterlaw14_awake.calls k  true _ ?sideG A3.out).mono ?_); (case sideG => exact laidG_below HG.out bl_ rfl); rintro e w10 ⟨rfl, hb⟩; have n0_ := Aside0.mk (blk_below (g := gb354) (o := .cells #[.int .i64 a0_0, .int .i64 a0_1, .slice A0_2 l0_2.length c0_2, .int .i64 a0_3, .bool a0_4, .bool a0_5] 24 (0, 0)) (by (with_reducible repeat apply pK); exact BK354.out) hb); have n1_ := Aside0.mk (below_step bl_ hb); clear BK354; clear HB; have BK354 := n0_; have HB := n1_; clear n0_ n1_; (try clear hb); (try clear hb2); (try clear hk); (try clear hi); obtain ⟨hcz11_0, hcz11_1, hcz11_2, hcz11_3, hcz11_4, hcz11_5, hfz11_0, hfz11_1, hfz11_2, hfz11_3, hfz11_4, hfz11_5⟩ := cells6 (show w10.heap[gb354]? = some (.cells #[.int .i64 a0_0, .int .i64 a0_1, .slice A0_2 l0_2.length c0_2, .int .i64 a0_3, .bool a0_4, .bool a0_5] _ (0, 0)) from BK354.out)) | (go_at_call 18; (with_reducible refine (shutterref10_Few.calls k a0_0 a0_1 _ _ l0_2 a0_3 a0_4 a0_5 true _ ?side1 ?side2 A5.out).mono ?_); (case side1 => repeat (first | exact (Kd.C_below HR0_2.out HB.out) | (with_reducible apply pC))); (case side2 => exact HC0_2.out); rintro e w12 ⟨rfl, hb⟩; have n0_ := Aside0.mk (blk_below (g := gb354) (o := .cells #[.int .i64 a0_0, .int .i64 a0_1, .slice A0_2 l0_2.length c0_2, .int .i64 a0_3, .bool a0_4, .bool a0_5] 24 (0, 0)) (by (with_reducible repeat apply pK); exact BK354.out) hb); have n1_ := Aside0.mk (below_step bl_ hb); clear BK354; clear HB; have BK354 := n0_; have HB := n1_; clear n0_ n1_; (try clear hb); (try clear hb2); (try clear hk); (try clear hi); obtain ⟨hcz13_0, hcz13_1, hcz13_2, hcz13_3, hcz13_4, hcz13_5, hfz13_0, hfz13_1, hfz13_2, hfz13_3, hfz13_4, hfz13_5⟩ := cells6 (show w12.heap[gb354]? = some (.cells #[.int .i64 a0_0, .int .i64 a0_1, .slice A0_2 l0_2.length c0_2, .int .i64 a0_3, .bool a0_4, .bool a0_5] _ (0, 0)) from BK354.out)) | ((with_reducible refine gate_store (t := 4) (p := 21) rfl ?_); (try (rw [drewN_self w12]; generalize hq_ : World.drewN w12 _ = w12; have n0_ := Aside0.mk (blk_at hq_ BK354.out); have n1_ := Aside0.mk (below_at hq_ HB.out); clear hq_ BK354 HB; have BK354 := n0_; have HB := n1_; clear n0_ n1_)); refine store_event (t := 4) (p := 21) (v := ?vo_w14) (w1 := (w12.setCell ⟨gb354, 5, none⟩ (.bool true))) ?hg ?ho ?hn ?hr ?_; (case ho => rfl); (case hg => rfl); (case hn => rfl); (case hr => first | (go_simp; done) | (go_simp; rfl)); intro w14 hw; have n0_ : Aside0 (w14.heap[gb354]? = some (.cells #[.int .i64 a0_0, .int .i64 a0_1, .slice A0_2 l0_2.length c0_2, .int .i64 a0_3, .bool a0_4, .bool true] 24 (0, 0))) := ⟨(by rw [hw]; exact (by (with_reducible repeat apply pK); refine blk_put (cs := #[.int .i64 a0_0, .int .i64 a0_1, .slice A0_2 l0_2.length c0_2, .int .i64 a0_3, .bool a0_4, .bool a0_5]) ?_ 5 _ rfl; (with_reducible repeat apply pK); exact BK354.out))⟩; have n1_ : Aside0 (Below w.heap.size w w14) := ⟨(by rw [hw]; exact bl_)⟩; clear hw; clear BK354; clear HB; have BK354 := n0_; have HB := n1_; clear n0_ n1_; obtain ⟨hcz15_0, hcz15_1, hcz15_2, hcz15_3, hcz15_4, hcz15_5, hfz15_0, hfz15_1, hfz15_2, hfz15_3, hfz15_4, hfz15_5⟩ := cells6 (show w14.heap[gb354]? = some (.cells #[.int .i64 a0_0, .int .i64 a0_1, .slice A0_2 l0_2.length c0_2, .int .i64 a0_3, .bool a0_4, .bool true] _ (0, 0)) from BK354.out)) | ((with_reducible refine gate_store (t := 4) (p := 22) rfl ?_); (try (rw [drewN_self w14]; generalize hq_ : World.drewN w14 _ = w14; have n0_ := Aside0.mk (blk_at hq_ BK354.out); have n1_ := Aside0.mk (below_at hq_ HB.out); clear hq_ BK354 HB; have BK354 := n0_; have HB := n1_; clear n0_ n1_)); refine store_event (t := 4) (p := 22) (v := ?vo_w16) (w1 := (w14.setCell ⟨gb354, 4, none⟩ (.bool false))) ?hg ?ho ?hn ?hr ?_; (case ho => rfl); (case hg => rfl); (case hn => rfl); (case hr => first | (go_simp; done) | (go_simp; rfl)); intro w16 hw; have n0_ : Aside0 (w16.heap[gb354]? = some (.cells #[.int .i64 a0_0, .int .i64 a0_1, .slice A0_2 l0_2.length c0_2, .int .i64 a0_3, .bool false, .bool true] 24 (0, 0))) := ⟨(by rw [hw]; exact (by (with_reducible repeat apply pK); refine blk_put (cs := #[.int .i64 a0_0, .int .i64 a0_1, .slice A0_2 l0_2.length c0_2, .int .i64 a0_3, .bool a0_4, .bool true]) ?_ 4 _ rfl; (with_reducible repeat apply pK); exact BK354.out))⟩; have n1_ : Aside0 (Below w.heap.size w w16) := ⟨(by rw [hw]; exact bl_)⟩; clear hw; clear BK354; clear HB; have BK354 := n0_; have HB := n1_; clear n0_ n1_; obtain ⟨hcz17_0, hcz17_1, hcz17_2, hcz17_3, hcz17_4, hcz17_5, hfz17_0, hfz17_1, hfz17_2, hfz17_3, hfz17_4, hfz17_5⟩ := cells6 (show w16.heap[gb354]? = some (.cells #[.int .i64 a0_0, .int .i64 a0_1, .slice A0_2 l0_2.length c0_2, .int .i64 a0_3, .bool false, .bool true] _ (0, 0)) from BK354.out)) | (go_at_call 31; (with_reducible refine (edit_Type.calls k a0_0 a0_1 (fun k_ => k_ < w.heap.size) _ _ l0_2 a0_3 false true a1 t358 t359 t360 t363 t364 t365 none t367 _ ?side1 A7.out).mono ?_); (case side1 => exact Kd.V_mk HC0_2.out (Kd.F_below (Kd.C_F k35_heap HR0_2.out) bl_)); rintro e w18 ⟨v361, v368, rfl, ho0, ho1, hb⟩; have n0_ := Aside0.mk (Kd.V_lower (Kd.V_mono (ok' := fun k_ => k_ ≠ gb354) ho0 (fun k_ hk_ => Or.elim hk_ (fun hs_ => fun e_ => Nat.not_le.2 hs_ (by rw [e_]; exact GW354.out)) (fun hn_ => (Kd.freshB (g := gb354) (o := .cells #[.int .i64 a0_0, .int .i64 a0_1, .slice A0_2 l0_2.length c0_2, .int .i64 a0_3, .bool false, .bool true] 24 (0, 0)) (by (with_reducible repeat apply pK); exact BK354.out) k_ hn_)))) (below_size bl_)); have n1_ := Aside0.mk (Kd.V_lower (Kd.V_mono (ok' := fun k_ => k_ ≠ gb354) ho1 (fun k_ hk_ => Or.elim hk_ (fun hs_ => fun e_ => Nat.not_le.2 hs_ (by rw [e_]; exact GW354.out)) (fun hn_ => (Kd.freshB (g := gb354) (o := .cells #[.int .i64 a0_0, .int .i64 a0_1, .slice A0_2 l0_2.length c0_2, .int .i64 a0_3, .bool false, .bool true] 24 (0, 0)) (by (with_reducible repeat apply pK); exact BK354.out) k_ hn_)))) (below_size bl_)); have n2_ := Aside0.mk (blk_below (g := gb354) (o := .cells #[.int .i64 a0_0, .int .i64 a0_1, .slice A0_2 l0_2.length c0_2, .int .i64 a0_3, .bool false, .bool true] 24 (0, 0)) (by (with_reducible repeat apply pK); exact BK354.out) hb); have n3_ := Aside0.mk (below_step bl_ hb); clear BK354; clear HB; have HO362 := n0_; have HO369 := n1_; have BK354 := n2_; have HB := n3_; clear n0_ n1_ n2_ n3_; (try clear hb); (try clear hb2); (try clear hk); (try clear hi); (try clear ho0); (try clear ho1); (try simp only [errW_none, errW_some])) | ((with_reducible refine gate_dst (N := 5) rfl ?_); (try (refine gate_guard (by rfl) ?_; dsimp only)); refine box_event ?hg (N := 5) ?hd (cs := #[.int .i64 0, .int .i64 0, .slice none 0 0, .int .i64 0, .bool false, .bool false]) (t := 24) ?hr ?_; (case hd => rfl); (case hg => rfl); (case hr => first | (go_simp; done) | (go_simp; rfl)); intro gb370 hg w19 hbox hb; have n0_ := Aside0.mk (Kd.V_below (Kd.V_elderB (by (with_reducible repeat apply pV); exact HO362.out) gb370 (Nat.le_of_eq hg.symm)) hb); have n1_ := Aside0.mk (Kd.V_below (Kd.V_elderB (by (with_reducible repeat apply pV); exact HO369.out) gb370 (Nat.le_of_eq hg.symm)) hb); have n2_ := Aside0.mk (blk_below (g := gb354) (o := .cells #[.int .i64 a0_0, .int .i64 a0_1, .slice A0_2 l0_2.length c0_2, .int .i64 a0_3, .bool false, .bool true] 24 (0, 0)) (by (with_reducible repeat apply pK); exact BK354.out) hb); have n3_ := Aside0.mk (below_step bl_ hb); have n4_ := Aside0.mk (hbox); have n5_ := Aside0.mk ((le_new hg (below_size bl_) : w.heap.size ≤ gb370)); have n6_ := Aside0.mk ((le_new hg (below_size bl_) : w.heap.size ≤ gb370)); have n7_ := Aside0.mk ((by rw [hg]; exact Nat.ne_of_lt (blk_lt (g := gb354) (o := .cells #[.int .i64 a0_0, .int .i64 a0_1, .slice A0_2 l0_2.length c0_2, .int .i64 a0_3, .bool false, .bool true] 24 (0, 0)) (by (with_reducible repeat apply pK); exact BK354.out)) : gb354 ≠ gb370)); have n8_ := Aside0.mk ((by rw [hg]; exact Nat.ne_of_gt (blk_lt (g := gb354) (o := .cells #[.int .i64 a0_0, .int .i64 a0_1, .slice A0_2 l0_2.length c0_2, .int .i64 a0_3, .bool false, .bool true] 24 (0, 0)) (by (with_reducible repeat apply pK); exact BK354.out)) : gb370 ≠ gb354)); clear HO362; clear HO369; clear BK354; clear HB; have HO362 := n0_; have HO369 := n1_; have BK354 := n2_; have HB := n3_; have BK370 := n4_; have GW370 := n5_; have GE370 := n6_; have NB354_370 := n7_; have NB370_354 := n8_; clear n0_ n1_ n2_ n3_ n4_ n5_ n6_ n7_ n8_; clear hb hbox hg; have hnb20 := NB370_354.out; have hnc20 := NB354_370.out; obtain ⟨hcz21_0, hcz21_1, hcz21_2, hcz21_3, hcz21_4, hcz21_5, hfz21_0, hfz21_1, hfz21_2, hfz21_3, hfz21_4, hfz21_5⟩ := cells6 (show w19.heap[gb370]? = some (.cells #[.int .i64 0, .int .i64 0, .slice none 0 0, .int .i64 0, .bool false, .bool false] _ (0, 0)) from BK370.out); obtain ⟨Ao22, co22, eo22⟩ := Kd.V_slice HO362.out; subst eo22; obtain ⟨hcz23_0, hcz23_1, hcz23_2, hcz23_3, hcz23_4, hcz23_5, hfz23_0, hfz23_1, hfz23_2, hfz23_3, hfz23_4, hfz23_5⟩ := cells6 (show w19.heap[gb354]? = some (.cells #[.int .i64 a0_0, .int .i64 a0_1, .slice A0_2 l0_2.length c0_2, .int .i64 a0_3, .bool false, .bool true] _ (0, 0)) from BK354.out)) | (go_at_call 32; (with_reducible refine (shutterref14_Line.calls k a0_0 a0_1 _ _ l0_2 a0_3 false true a0_3 t372 _ ?side1 ?side2 A8.out).mono ?_); (case side1 => exact Kd.C_below HR0_2.out bl_); (case side2 => exact HC0_2.out); rintro e w24 ⟨v373, rfl, ho0, hb⟩; have n0_ := Aside0.mk (Kd.V_elder' (by (with_reducible repeat apply pV); exact (Kd.V_mono (Kd.V_far (p := ⟨gb370, 5, none⟩) (Kd.V_far (p := ⟨gb370, 4, none⟩) (Kd.V_far (p := ⟨gb370, 3, none⟩) (Kd.V_far (p := ⟨gb370, 2, none⟩) (Kd.V_far (p := ⟨gb370, 1, none⟩) (Kd.V_far (p := ⟨gb370, 0, none⟩) (Kd.V_mono HO362.out (fun k_ hk => (⟨hk, hk.2⟩ : _ ∧ k_ ≠ gb370))) (fun _ hk => hk.2) (.int .i64 t358)) (fun _ hk => hk.2) (.int .i64 t359)) (fun _ hk => hk.2) (.slice Ao22 t360.length co22)) (fun _ hk => hk.2) (.int .i64 t363)) (fun _ hk => hk.2) (.bool t364)) (fun _ hk => hk.2) (.bool t365)) (fun _ h_ => h_.1))) (Kd.R_base ho0) hb); have n1_ := Aside0.mk (Kd.V_elder' (by (with_reducible repeat apply pV); exact (Kd.V_mono (Kd.V_far (p := ⟨gb370, 5, none⟩) (Kd.V_far (p := ⟨gb370, 4, none⟩) (Kd.V_far (p := ⟨gb370, 3, none⟩) (Kd.V_far (p := ⟨gb370, 2, none⟩) (Kd.V_far (p := ⟨gb370, 1, none⟩) (Kd.V_far (p := ⟨gb370, 0, none⟩) (Kd.V_mono HO369.out (fun k_ hk => (⟨hk, hk.2⟩ : _ ∧ k_ ≠ gb370))) (fun _ hk => hk.2) (.int .i64 t358)) (fun _ hk => hk.2) (.int .i64 t359)) (fun _ hk => hk.2) (.slice Ao22 t360.length co22)) (fun _ hk => hk.2) (.int .i64 t363)) (fun _ hk => hk.2) (.bool t364)) (fun _ hk => hk.2) (.bool t365)) (fun _ h_ => h_.1))) (Kd.R_base ho0) hb); have n2_ := Aside0.mk (Kd.R_lower ho0 (below_size bl_)); have n3_ := Aside0.mk (blk_below (g := gb354) (o := .cells #[.int .i64 a0_0, .int .i64 a0_1, .slice A0_2 l0_2.length c0_2, .int .i64 a0_3, .bool false, .bool true] 24 (0, 0)) (by (with_reducible repeat apply pK); refine blk_far ?_ NB354_370.out _; (with_reducible repeat apply pK); refine blk_far ?_ NB354_370.out _; (with_reducible repeat apply pK); refine blk_far ?_ NB354_370.out _; (with_reducible repeat apply pK); refine blk_far ?_ NB354_370.out _; (with_reducible repeat apply pK); refine blk_far ?_ NB354_370.out _; (with_reducible repeat apply pK); refine blk_far ?_ NB354_370.out _; (with_reducible repeat apply pK); exact BK354.out) hb); have n4_ := Aside0.mk (blk_below (g := gb370) (o := .cells #[.int .i64 t358, .int .i64 t359, .slice Ao22 t360.length co22, .int .i64 t363, .bool t364, .bool t365] 24 (0, 0)) (by (with_reducible repeat apply pK); refine blk_put (cs := #[.int .i64 t358, .int .i64 t359, .slice Ao22 t360.length co22, .int .i64 t363, .bool t364, .bool false]) ?_ 5 _ rfl; (with_reducible repeat apply pK); refine blk_put (cs := #[.int .i64 t358, .int .i64 t359, .slice Ao22 t360.length co22, .int .i64 t363, .bool false, .bool false]) ?_ 4 _ rfl; (with_reducible repeat apply pK); refine blk_put (cs := #[.int .i64 t358, .int .i64 t359, .slice Ao22 t360.length co22, .int .i64 0, .bool false, .bool false]) ?_ 3 _ rfl; (with_reducible repeat apply pK); refine blk_put (cs := #[.int .i64 t358, .int .i64 t359, .slice none 0 0, .int .i64 0, .bool false, .bool false]) ?_ 2 _ rfl; (with_reducible repeat apply pK); refine blk_put (cs := #[.int .i64 t358, .int .i64 0, .slice none 0 0, .int .i64 0, .bool false, .bool false]) ?_ 1 _ rfl; (with_reducible repeat apply pK); refine blk_put (cs := #[.int .i64 0, .int .i64 0, .slice none 0 0, .int .i64 0, .bool false, .bool false]) ?_ 0 _ rfl; (with_reducible repeat apply pK); exact BK370.out) hb); have n5_ := Aside0.mk (below_step bl_ hb); clear HO362; clear HO369; clear BK354; clear BK370; clear HB; have HO362 := n0_; have HO369 := n1_; have HO374 := n2_; have BK354 := n3_; have BK370 := n4_; have HB := n5_; clear n0_ n1_ n2_ n3_ n4_ n5_; (try clear hb); (try clear hb2); (try clear hk); (try clear hi); (try clear ho0)))
    repeat (go_quiet (first | ((with_reducible refine gate_dst (N := 2) rfl ?_); (try (refine gate_guard (by rfl) ?_; dsimp only)); refine box_event ?hg (N := 2) ?hd (cs := #[.int .i64 a0_0, .int .i64 a0_1, .slice A0_2 l0_2.length c0_2, .int .i64 a0_3, .bool a0_4, .bool a0_5]) (t := 24) ?hr ?_; (case hd => rfl); (case hg => rfl); (case hr => first | (go_simp; done) | (go_simp; rfl)); intro gb354 hg w9 hbox hb; have n0_ := Aside0.mk (below_step bl_ hb); have n1_ := Aside0.mk (hbox); have n2_ := Aside0.mk ((le_new hg (below_size bl_) : w.heap.size ≤ gb354)); have n3_ := Aside0.mk ((le_new hg (below_size bl_) : w.heap.size ≤ gb354)); clear HB; have HB := n0_; have BK354 := n1_; have GW354 := n2_; have GE354 := n3_; clear n0_ n1_ n2_ n3_; clear hb hbox hg) | (go_at_call 30; (with_reducible refine (shutterlaw14_awake.calls k  true _ ?sideG A3.out).mono ?_); (case sideG => exact laidG_below HG.out bl_ rfl); rintro e w10 ⟨rfl, hb⟩; have n0_ := Aside0.mk (blk_below (g := gb354) (o := .cells #[.int .i64 a0_0, .int .i64 a0_1, .slice A0_2 l0_2.length c0_2, .int .i64 a0_3, .bool a0_4, .bool a0_5] 24 (0, 0)) (by (with_reducible repeat apply pK); exact BK354.out) hb); have n1_ := Aside0.mk (below_step bl_ hb); clear BK354; clear HB; have BK354 := n0_; have HB := n1_; clear n0_ n1_; (try clear hb); (try clear hb2); (try clear hk); (try clear hi); obtain ⟨hcz11_0, hcz11_1, hcz11_2, hcz11_3, hcz11_4, hcz11_5, hfz11_0, hfz11_1, hfz11_2, hfz11_3, hfz11_4, hfz11_5⟩ := cells6 (show w10.heap[gb354]? = some (.cells #[.int .i64 a0_0, .int .i64 a0_1, .slice A0_2 l0_2.length c0_2, .int .i64 a0_3, .bool a0_4, .bool a0_5] _ (0, 0)) from BK354.out)) | (go_at_call 18; (with_reducible refine (shutterref10_Few.calls k a0_0 a0_1 _ _ l0_2 a0_3 a0_4 a0_5 true _ ?side1 ?side2 A5.out).mono ?_); (case side1 => repeat (first | exact (Kd.C_below HR0_2.out HB.out) | (with_reducible apply pC))); (case side2 => exact HC0_2.out); rintro e w12 ⟨rfl, hb⟩; have n0_ := Aside0.mk (blk_below (g := gb354) (o := .cells #[.int .i64 a0_0, .int .i64 a0_1, .slice A0_2 l0_2.length c0_2, .int .i64 a0_3, .bool a0_4, .bool a0_5] 24 (0, 0)) (by (with_reducible repeat apply pK); exact BK354.out) hb); have n1_ := Aside0.mk (below_step bl_ hb); clear BK354; clear HB; have BK354 := n0_; have HB := n1_; clear n0_ n1_; (try clear hb); (try clear hb2); (try clear hk); (try clear hi); obtain ⟨hcz13_0, hcz13_1, hcz13_2, hcz13_3, hcz13_4, hcz13_5, hfz13_0, hfz13_1, hfz13_2, hfz13_3, hfz13_4, hfz13_5⟩ := cells6 (show w12.heap[gb354]? = some (.cells #[.int .i64 a0_0, .int .i64 a0_1, .slice A0_2 l0_2.length c0_2, .int .i64 a0_3, .bool a0_4, .bool a0_5] _ (0, 0)) from BK354.out)) | ((with_reducible refine gate_store (t := 4) (p := 21) rfl ?_); (try (rw [drewN_self w12]; generalize hq_ : World.drewN w12 _ = w12; have n0_ := Aside0.mk (blk_at hq_ BK354.out); have n1_ := Aside0.mk (below_at hq_ HB.out); clear hq_ BK354 HB; have BK354 := n0_; have HB := n1_; clear n0_ n1_)); refine store_event (t := 4) (p := 21) (v := ?vo_w14) (w1 := (w12.setCell ⟨gb354, 5, none⟩ (.bool true))) ?hg ?ho ?hn ?hr ?_; (case ho => rfl); (case hg => rfl); (case hn => rfl); (case hr => first | (go_simp; done) | (go_simp; rfl)); intro w14 hw; have n0_ : Aside0 (w14.heap[gb354]? = some (.cells #[.int .i64 a0_0, .int .i64 a0_1, .slice A0_2 l0_2.length c0_2, .int .i64 a0_3, .bool a0_4, .bool true] 24 (0, 0))) := ⟨(by rw [hw]; exact (by (with_reducible repeat apply pK); refine blk_put (cs := #[.int .i64 a0_0, .int .i64 a0_1, .slice A0_2 l0_2.length c0_2, .int .i64 a0_3, .bool a0_4, .bool a0_5]) ?_ 5 _ rfl; (with_reducible repeat apply pK); exact BK354.out))⟩; have n1_ : Aside0 (Below w.heap.size w w14) := ⟨(by rw [hw]; exact bl_)⟩; clear hw; clear BK354; clear HB; have BK354 := n0_; have HB := n1_; clear n0_ n1_; obtain ⟨hcz15_0, hcz15_1, hcz15_2, hcz15_3, hcz15_4, hcz15_5, hfz15_0, hfz15_1, hfz15_2, hfz15_3, hfz15_4, hfz15_5⟩ := cells6 (show w14.heap[gb354]? = some (.cells #[.int .i64 a0_0, .int .i64 a0_1, .slice A0_2 l0_2.length c0_2, .int .i64 a0_3, .bool a0_4, .bool true] _ (0, 0)) from BK354.out)) | ((with_reducible refine gate_store (t := 4) (p := 22) rfl ?_); (try (rw [drewN_self w14]; generalize hq_ : World.drewN w14 _ = w14; have n0_ := Aside0.mk (blk_at hq_ BK354.out); have n1_ := Aside0.mk (below_at hq_ HB.out); clear hq_ BK354 HB; have BK354 := n0_; have HB := n1_; clear n0_ n1_)); refine store_event (t := 4) (p := 22) (v := ?vo_w16) (w1 := (w14.setCell ⟨gb354, 4, none⟩ (.bool false))) ?hg ?ho ?hn ?hr ?_; (case ho => rfl); (case hg => rfl); (case hn => rfl); (case hr => first | (go_simp; done) | (go_simp; rfl)); intro w16 hw; have n0_ : Aside0 (w16.heap[gb354]? = some (.cells #[.int .i64 a0_0, .int .i64 a0_1, .slice A0_2 l0_2.length c0_2, .int .i64 a0_3, .bool false, .bool true] 24 (0, 0))) := ⟨(by rw [hw]; exact (by (with_reducible repeat apply pK); refine blk_put (cs := #[.int .i64 a0_0, .int .i64 a0_1, .slice A0_2 l0_2.length c0_2, .int .i64 a0_3, .bool a0_4, .bool true]) ?_ 4 _ rfl; (with_reducible repeat apply pK); exact BK354.out))⟩; have n1_ : Aside0 (Below w.heap.size w w16) := ⟨(by rw [hw]; exact bl_)⟩; clear hw; clear BK354; clear HB; have BK354 := n0_; have HB := n1_; clear n0_ n1_; obtain ⟨hcz17_0, hcz17_1, hcz17_2, hcz17_3, hcz17_4, hcz17_5, hfz17_0, hfz17_1, hfz17_2, hfz17_3, hfz17_4, hfz17_5⟩ := cells6 (show w16.heap[gb354]? = some (.cells #[.int .i64 a0_0, .int .i64 a0_1, .slice A0_2 l0_2.length c0_2, .int .i64 a0_3, .bool false, .bool true] _ (0, 0)) from BK354.out)) | (go_at_call 31; (with_reducible refine (edit_Type.calls k a0_0 a0_1 (fun k_ => k_ < w.heap.size) _ _ l0_2 a0_3 false true a1 t358 t359 t360 t363 t364 t365 none t367 _ ?side1 A7.out).mono ?_); (case side1 => exact Kd.V_mk HC0_2.out (Kd.F_below (Kd.C_F k35_heap HR0_2.out) bl_)); rintro e w18 ⟨v361, v368, rfl, ho0, ho1, hb⟩; have n0_ := Aside0.mk (Kd.V_lower (Kd.V_mono (ok' := fun k_ => k_ ≠ gb354) ho0 (fun k_ hk_ => Or.elim hk_ (fun hs_ => fun e_ => Nat.not_le.2 hs_ (by rw [e_]; exact GW354.out)) (fun hn_ => (Kd.freshB (g := gb354) (o := .cells #[.int .i64 a0_0, .int .i64 a0_1, .slice A0_2 l0_2.length c0_2, .int .i64 a0_3, .bool false, .bool true] 24 (0, 0)) (by (with_reducible repeat apply pK); exact BK354.out) k_ hn_)))) (below_size bl_)); have n1_ := Aside0.mk (Kd.V_lower (Kd.V_mono (ok' := fun k_ => k_ ≠ gb354) ho1 (fun k_ hk_ => Or.elim hk_ (fun hs_ => fun e_ => Nat.not_le.2 hs_ (by rw [e_]; exact GW354.out)) (fun hn_ => (Kd.freshB (g := gb354) (o := .cells #[.int .i64 a0_0, .int .i64 a0_1, .slice A0_2 l0_2.length c0_2, .int .i64 a0_3, .bool false, .bool true] 24 (0, 0)) (by (with_reducible repeat apply pK); exact BK354.out) k_ hn_)))) (below_size bl_)); have n2_ := Aside0.mk (blk_below (g := gb354) (o := .cells #[.int .i64 a0_0, .int .i64 a0_1, .slice A0_2 l0_2.length c0_2, .int .i64 a0_3, .bool false, .bool true] 24 (0, 0)) (by (with_reducible repeat apply pK); exact BK354.out) hb); have n3_ := Aside0.mk (below_step bl_ hb); clear BK354; clear HB; have HO362 := n0_; have HO369 := n1_; have BK354 := n2_; have HB := n3_; clear n0_ n1_ n2_ n3_; (try clear hb); (try clear hb2); (try clear hk); (try clear hi); (try clear ho0); (try clear ho1); (try simp only [errW_none, errW_some])) | ((with_reducible refine gate_dst (N := 5) rfl ?_); (try (refine gate_guard (by rfl) ?_; dsimp only)); refine box_event ?hg (N := 5) ?hd (cs := #[.int .i64 0, .int .i64 0, .slice none 0 0, .int .i64 0, .bool false, .bool false]) (t := 24) ?hr ?_; (case hd => rfl); (case hg => rfl); (case hr => first | (go_simp; done) | (go_simp; rfl)); intro gb370 hg w19 hbox hb; have n0_ := Aside0.mk (Kd.V_below (Kd.V_elderB (by (with_reducible repeat apply pV); exact HO362.out) gb370 (Nat.le_of_eq hg.symm)) hb); have n1_ := Aside0.mk (Kd.V_below (Kd.V_elderB (by (with_reducible repeat apply pV); exact HO369.out) gb370 (Nat.le_of_eq hg.symm)) hb); have n2_ := Aside0.mk (blk_below (g := gb354) (o := .cells #[.int .i64 a0_0, .int .i64 a0_1, .slice A0_2 l0_2.length c0_2, .int .i64 a0_3, .bool false, .bool true] 24 (0, 0)) (by (with_reducible repeat apply pK); exact BK354.out) hb); have n3_ := Aside0.mk (below_step bl_ hb); have n4_ := Aside0.mk (hbox); have n5_ := Aside0.mk ((le_new hg (below_size bl_) : w.heap.size ≤ gb370)); have n6_ := Aside0.mk ((le_new hg (below_size bl_) : w.heap.size ≤ gb370)); have n7_ := Aside0.mk ((by rw [hg]; exact Nat.ne_of_lt (blk_lt (g := gb354) (o := .cells #[.int .i64 a0_0, .int .i64 a0_1, .slice A0_2 l0_2.length c0_2, .int .i64 a0_3, .bool false, .bool true] 24 (0, 0)) (by (with_reducible repeat apply pK); exact BK354.out)) : gb354 ≠ gb370)); have n8_ := Aside0.mk ((by rw [hg]; exact Nat.ne_of_gt (blk_lt (g := gb354) (o := .cells #[.int .i64 a0_0, .int .i64 a0_1, .slice A0_2 l0_2.length c0_2, .int .i64 a0_3, .bool false, .bool true] 24 (0, 0)) (by (with_reducible repeat apply pK); exact BK354.out)) : gb370 ≠ gb354)); clear HO362; clear HO369; clear BK354; clear HB; have HO362 := n0_; have HO369 := n1_; have BK354 := n2_; have HB := n3_; have BK370 := n4_; have GW370 := n5_; have GE370 := n6_; have NB354_370 := n7_; have NB370_354 := n8_; clear n0_ n1_ n2_ n3_ n4_ n5_ n6_ n7_ n8_; clear hb hbox hg; have hnb20 := NB370_354.out; have hnc20 := NB354_370.out; obtain ⟨hcz21_0, hcz21_1, hcz21_2, hcz21_3, hcz21_4, hcz21_5, hfz21_0, hfz21_1, hfz21_2, hfz21_3, hfz21_4, hfz21_5⟩ := cells6 (show w19.heap[gb370]? = some (.cells #[.int .i64 0, .int .i64 0, .slice none 0 0, .int .i64 0, .bool false, .bool false] _ (0, 0)) from BK370.out); obtain ⟨Ao22, co22, eo22⟩ := Kd.V_slice HO362.out; subst eo22; obtain ⟨hcz23_0, hcz23_1, hcz23_2, hcz23_3, hcz23_4, hcz23_5, hfz23_0, hfz23_1, hfz23_2, hfz23_3, hfz23_4, hfz23_5⟩ := cells6 (show w19.heap[gb354]? = some (.cells #[.int .i64 a0_0, .int .i64 a0_1, .slice A0_2 l0_2.length c0_2, .int .i64 a0_3, .bool false, .bool true] _ (0, 0)) from BK354.out)) | (go_at_call 32; (with_reducible refine (shutterref14_Line.calls k a0_0 a0_1 _ _ l0_2 a0_3 false true a0_3 t372 _ ?side1 ?side2 A8.out).mono ?_); (case side1 => exact Kd.C_below HR0_2.out bl_); (case side2 => exact HC0_2.out); rintro e w24 ⟨v373, rfl, ho0, hb⟩; have n0_ := Aside0.mk (Kd.V_elder' (by (with_reducible repeat apply pV); exact (Kd.V_mono (Kd.V_far (p := ⟨gb370, 5, none⟩) (Kd.V_far (p := ⟨gb370, 4, none⟩) (Kd.V_far (p := ⟨gb370, 3, none⟩) (Kd.V_far (p := ⟨gb370, 2, none⟩) (Kd.V_far (p := ⟨gb370, 1, none⟩) (Kd.V_far (p := ⟨gb370, 0, none⟩) (Kd.V_mono HO362.out (fun k_ hk => (⟨hk, hk.2⟩ : _ ∧ k_ ≠ gb370))) (fun _ hk => hk.2) (.int .i64 t358)) (fun _ hk => hk.2) (.int .i64 t359)) (fun _ hk => hk.2) (.slice Ao22 t360.length co22)) (fun _ hk => hk.2) (.int .i64 t363)) (fun _ hk => hk.2) (.bool t364)) (fun _ hk => hk.2) (.bool t365)) (fun _ h_ => h_.1))) (Kd.R_base ho0) hb); have n1_ := Aside0.mk (Kd.V_elder' (by (with_reducible repeat apply pV); exact (Kd.V_mono (Kd.V_far (p := ⟨gb370, 5, none⟩) (Kd.V_far (p := ⟨gb370, 4, none⟩) (Kd.V_far (p := ⟨gb370, 3, none⟩) (Kd.V_far (p := ⟨gb370, 2, none⟩) (Kd.V_far (p := ⟨gb370, 1, none⟩) (Kd.V_far (p := ⟨gb370, 0, none⟩) (Kd.V_mono HO369.out (fun k_ hk => (⟨hk, hk.2⟩ : _ ∧ k_ ≠ gb370))) (fun _ hk => hk.2) (.int .i64 t358)) (fun _ hk => hk.2) (.int .i64 t359)) (fun _ hk => hk.2) (.slice Ao22 t360.length co22)) (fun _ hk => hk.2) (.int .i64 t363)) (fun _ hk => hk.2) (.bool t364)) (fun _ hk => hk.2) (.bool t365)) (fun _ h_ => h_.1))) (Kd.R_base ho0) hb); have n2_ := Aside0.mk (Kd.R_lower ho0 (below_size bl_)); have n3_ := Aside0.mk (blk_below (g := gb354) (o := .cells #[.int .i64 a0_0, .int .i64 a0_1, .slice A0_2 l0_2.length c0_2, .int .i64 a0_3, .bool false, .bool true] 24 (0, 0)) (by (with_reducible repeat apply pK); refine blk_far ?_ NB354_370.out _; (with_reducible repeat apply pK); refine blk_far ?_ NB354_370.out _; (with_reducible repeat apply pK); refine blk_far ?_ NB354_370.out _; (with_reducible repeat apply pK); refine blk_far ?_ NB354_370.out _; (with_reducible repeat apply pK); refine blk_far ?_ NB354_370.out _; (with_reducible repeat apply pK); refine blk_far ?_ NB354_370.out _; (with_reducible repeat apply pK); exact BK354.out) hb); have n4_ := Aside0.mk (blk_below (g := gb370) (o := .cells #[.int .i64 t358, .int .i64 t359, .slice Ao22 t360.length co22, .int .i64 t363, .bool t364, .bool t365] 24 (0, 0)) (by (with_reducible repeat apply pK); refine blk_put (cs := #[.int .i64 t358, .int .i64 t359, .slice Ao22 t360.length co22, .int .i64 t363, .bool t364, .bool false]) ?_ 5 _ rfl; (with_reducible repeat apply pK); refine blk_put (cs := #[.int .i64 t358, .int .i64 t359, .slice Ao22 t360.length co22, .int .i64 t363, .bool false, .bool false]) ?_ 4 _ rfl; (with_reducible repeat apply pK); refine blk_put (cs := #[.int .i64 t358, .int .i64 t359, .slice Ao22 t360.length co22, .int .i64 0, .bool false, .bool false]) ?_ 3 _ rfl; (with_reducible repeat apply pK); refine blk_put (cs := #[.int .i64 t358, .int .i64 t359, .slice none 0 0, .int .i64 0, .bool false, .bool false]) ?_ 2 _ rfl; (with_reducible repeat apply pK); refine blk_put (cs := #[.int .i64 t358, .int .i64 0, .slice none 0 0, .int .i64 0, .bool false, .bool false]) ?_ 1 _ rfl; (with_reducible repeat apply pK); refine blk_put (cs := #[.int .i64 0, .int .i64 0, .slice none 0 0, .int .i64 0, .bool false, .bool false]) ?_ 0 _ rfl; (with_reducible repeat apply pK); exact BK370.out) hb); have n5_ := Aside0.mk (below_step bl_ hb); clear HO362; clear HO369; clear BK354; clear BK370; clear HB; have HO362 := n0_; have HO369 := n1_; have HO374 := n2_; have BK354 := n3_; have BK370 := n4_; have HB := n5_; clear n0_ n1_ n2_ n3_ n4_ n5_; (try clear hb); (try clear hb2); (try clear hk); (try clear hi); (try clear ho0))); try go_wp2_with (first | ((with_reducible refine gate_dst (N := 2) rfl ?_); (try (refine gate_guard (by rfl) ?_; dsimp only)); refine box_event ?hg (N := 2) ?hd (cs := #[.int .i64 a0_0, .int .i64 a0_1, .slice A0_2 l0_2.length c0_2, .int .i64 a0_3, .bool a0_4, .bool a0_5]) (t := 24) ?hr ?_; (case hd => rfl); (case hg => rfl); (case hr => first | (go_simp; done) | (go_simp; rfl)); intro gb354 hg w9 hbox hb; have n0_ := Aside0.mk (below_step bl_ hb); have n1_ := Aside0.mk (hbox); have n2_ := Aside0.mk ((le_new hg (below_size bl_) : w.heap.size ≤ gb354)); have n3_ := Aside0.mk ((le_new hg (below_size bl_) : w.heap.size ≤ gb354)); clear HB; have HB := n0_; have BK354 := n1_; have GW354 := n2_; have GE354 := n3_; clear n0_ n1_ n2_ n3_; clear hb hbox hg) | (go_at_call 30; (with_reducible refine (shutterlaw14_awake.calls k  true _ ?sideG A3.out).mono ?_); (case sideG => exact laidG_below HG.out bl_ rfl); rintro e w10 ⟨rfl, hb⟩; have n0_ := Aside0.mk (blk_below (g := gb354) (o := .cells #[.int .i64 a0_0, .int .i64 a0_1, .slice A0_2 l0_2.length c0_2, .int .i64 a0_3, .bool a0_4, .bool a0_5] 24 (0, 0)) (by (with_reducible repeat apply pK); exact BK354.out) hb); have n1_ := Aside0.mk (below_step bl_ hb); clear BK354; clear HB; have BK354 := n0_; have HB := n1_; clear n0_ n1_; (try clear hb); (try clear hb2); (try clear hk); (try clear hi); obtain ⟨hcz11_0, hcz11_1, hcz11_2, hcz11_3, hcz11_4, hcz11_5, hfz11_0, hfz11_1, hfz11_2, hfz11_3, hfz11_4, hfz11_5⟩ := cells6 (show w10.heap[gb354]? = some (.cells #[.int .i64 a0_0, .int .i64 a0_1, .slice A0_2 l0_2.length c0_2, .int .i64 a0_3, .bool a0_4, .bool a0_5] _ (0, 0)) from BK354.out)) | (go_at_call 18; (with_reducible refine (shutterref10_Few.calls k a0_0 a0_1 _ _ l0_2 a0_3 a0_4 a0_5 true _ ?side1 ?side2 A5.out).mono ?_); (case side1 => repeat (first | exact (Kd.C_below HR0_2.out HB.out) | (with_reducible apply pC))); (case side2 => exact HC0_2.out); rintro e w12 ⟨rfl, hb⟩; have n0_ := Aside0.mk (blk_below (g := gb354) (o := .cells #[.int .i64 a0_0, .int .i64 a0_1, .slice A0_2 l0_2.length c0_2, .int .i64 a0_3, .bool a0_4, .bool a0_5] 24 (0, 0)) (by (with_reducible repeat apply pK); exact BK354.out) hb); have n1_ := Aside0.mk (below_step bl_ hb); clear BK354; clear HB; have BK354 := n0_; have HB := n1_; clear n0_ n1_; (try clear hb); (try clear hb2); (try clear hk); (try clear hi); obtain ⟨hcz13_0, hcz13_1, hcz13_2, hcz13_3, hcz13_4, hcz13_5, hfz13_0, hfz13_1, hfz13_2, hfz13_3, hfz13_4, hfz13_5⟩ := cells6 (show w12.heap[gb354]? = some (.cells #[.int .i64 a0_0, .int .i64 a0_1, .slice A0_2 l0_2.length c0_2, .int .i64 a0_3, .bool a0_4, .bool a0_5] _ (0, 0)) from BK354.out)) | ((with_reducible refine gate_store (t := 4) (p := 21) rfl ?_); (try (rw [drewN_self w12]; generalize hq_ : World.drewN w12 _ = w12; have n0_ := Aside0.mk (blk_at hq_ BK354.out); have n1_ := Aside0.mk (below_at hq_ HB.out); clear hq_ BK354 HB; have BK354 := n0_; have HB := n1_; clear n0_ n1_)); refine store_event (t := 4) (p := 21) (v := ?vo_w14) (w1 := (w12.setCell ⟨gb354, 5, none⟩ (.bool true))) ?hg ?ho ?hn ?hr ?_; (case ho => rfl); (case hg => rfl); (case hn => rfl); (case hr => first | (go_simp; done) | (go_simp; rfl)); intro w14 hw; have n0_ : Aside0 (w14.heap[gb354]? = some (.cells #[.int .i64 a0_0, .int .i64 a0_1, .slice A0_2 l0_2.length c0_2, .int .i64 a0_3, .bool a0_4, .bool true] 24 (0, 0))) := ⟨(by rw [hw]; exact (by (with_reducible repeat apply pK); refine blk_put (cs := #[.int .i64 a0_0, .int .i64 a0_1, .slice A0_2 l0_2.length c0_2, .int .i64 a0_3, .bool a0_4, .bool a0_5]) ?_ 5 _ rfl; (with_reducible repeat apply pK); exact BK354.out))⟩; have n1_ : Aside0 (Below w.heap.size w w14) := ⟨(by rw [hw]; exact bl_)⟩; clear hw; clear BK354; clear HB; have BK354 := n0_; have HB := n1_; clear n0_ n1_; obtain ⟨hcz15_0, hcz15_1, hcz15_2, hcz15_3, hcz15_4, hcz15_5, hfz15_0, hfz15_1, hfz15_2, hfz15_3, hfz15_4, hfz15_5⟩ := cells6 (show w14.heap[gb354]? = some (.cells #[.int .i64 a0_0, .int .i64 a0_1, .slice A0_2 l0_2.length c0_2, .int .i64 a0_3, .bool a0_4, .bool true] _ (0, 0)) from BK354.out)) | ((with_reducible refine gate_store (t := 4) (p := 22) rfl ?_); (try (rw [drewN_self w14]; generalize hq_ : World.drewN w14 _ = w14; have n0_ := Aside0.mk (blk_at hq_ BK354.out); have n1_ := Aside0.mk (below_at hq_ HB.out); clear hq_ BK354 HB; have BK354 := n0_; have HB := n1_; clear n0_ n1_)); refine store_event (t := 4) (p := 22) (v := ?vo_w16) (w1 := (w14.setCell ⟨gb354, 4, none⟩ (.bool false))) ?hg ?ho ?hn ?hr ?_; (case ho => rfl); (case hg => rfl); (case hn => rfl); (case hr => first | (go_simp; done) | (go_simp; rfl)); intro w16 hw; have n0_ : Aside0 (w16.heap[gb354]? = some (.cells #[.int .i64 a0_0, .int .i64 a0_1, .slice A0_2 l0_2.length c0_2, .int .i64 a0_3, .bool false, .bool true] 24 (0, 0))) := ⟨(by rw [hw]; exact (by (with_reducible repeat apply pK); refine blk_put (cs := #[.int .i64 a0_0, .int .i64 a0_1, .slice A0_2 l0_2.length c0_2, .int .i64 a0_3, .bool a0_4, .bool true]) ?_ 4 _ rfl; (with_reducible repeat apply pK); exact BK354.out))⟩; have n1_ : Aside0 (Below w.heap.size w w16) := ⟨(by rw [hw]; exact bl_)⟩; clear hw; clear BK354; clear HB; have BK354 := n0_; have HB := n1_; clear n0_ n1_; obtain ⟨hcz17_0, hcz17_1, hcz17_2, hcz17_3, hcz17_4, hcz17_5, hfz17_0, hfz17_1, hfz17_2, hfz17_3, hfz17_4, hfz17_5⟩ := cells6 (show w16.heap[gb354]? = some (.cells #[.int .i64 a0_0, .int .i64 a0_1, .slice A0_2 l0_2.length c0_2, .int .i64 a0_3, .bool false, .bool true] _ (0, 0)) from BK354.out)) | (go_at_call 31; (with_reducible refine (edit_Type.calls k a0_0 a0_1 (fun k_ => k_ < w.heap.size) _ _ l0_2 a0_3 false true a1 t358 t359 t360 t363 t364 t365 none t367 _ ?side1 A7.out).mono ?_); (case side1 => exact Kd.V_mk HC0_2.out (Kd.F_below (Kd.C_F k35_heap HR0_2.out) bl_)); rintro e w18 ⟨v361, v368, rfl, ho0, ho1, hb⟩; have n0_ := Aside0.mk (Kd.V_lower (Kd.V_mono (ok' := fun k_ => k_ ≠ gb354) ho0 (fun k_ hk_ => Or.elim hk_ (fun hs_ => fun e_ => Nat.not_le.2 hs_ (by rw [e_]; exact GW354.out)) (fun hn_ => (Kd.freshB (g := gb354) (o := .cells #[.int .i64 a0_0, .int .i64 a0_1, .slice A0_2 l0_2.length c0_2, .int .i64 a0_3, .bool false, .bool true] 24 (0, 0)) (by (with_reducible repeat apply pK); exact BK354.out) k_ hn_)))) (below_size bl_)); have n1_ := Aside0.mk (Kd.V_lower (Kd.V_mono (ok' := fun k_ => k_ ≠ gb354) ho1 (fun k_ hk_ => Or.elim hk_ (fun hs_ => fun e_ => Nat.not_le.2 hs_ (by rw [e_]; exact GW354.out)) (fun hn_ => (Kd.freshB (g := gb354) (o := .cells #[.int .i64 a0_0, .int .i64 a0_1, .slice A0_2 l0_2.length c0_2, .int .i64 a0_3, .bool false, .bool true] 24 (0, 0)) (by (with_reducible repeat apply pK); exact BK354.out) k_ hn_)))) (below_size bl_)); have n2_ := Aside0.mk (blk_below (g := gb354) (o := .cells #[.int .i64 a0_0, .int .i64 a0_1, .slice A0_2 l0_2.length c0_2, .int .i64 a0_3, .bool false, .bool true] 24 (0, 0)) (by (with_reducible repeat apply pK); exact BK354.out) hb); have n3_ := Aside0.mk (below_step bl_ hb); clear BK354; clear HB; have HO362 := n0_; have HO369 := n1_; have BK354 := n2_; have HB := n3_; clear n0_ n1_ n2_ n3_; (try clear hb); (try clear hb2); (try clear hk); (try clear hi); (try clear ho0); (try clear ho1); (try simp only [errW_none, errW_some])) | ((with_reducible refine gate_dst (N := 5) rfl ?_); (try (refine gate_guard (by rfl) ?_; dsimp only)); refine box_event ?hg (N := 5) ?hd (cs := #[.int .i64 0, .int .i64 0, .slice none 0 0, .int .i64 0, .bool false, .bool false]) (t := 24) ?hr ?_; (case hd => rfl); (case hg => rfl); (case hr => first | (go_simp; done) | (go_simp; rfl)); intro gb370 hg w19 hbox hb; have n0_ := Aside0.mk (Kd.V_below (Kd.V_elderB (by (with_reducible repeat apply pV); exact HO362.out) gb370 (Nat.le_of_eq hg.symm)) hb); have n1_ := Aside0.mk (Kd.V_below (Kd.V_elderB (by (with_reducible repeat apply pV); exact HO369.out) gb370 (Nat.le_of_eq hg.symm)) hb); have n2_ := Aside0.mk (blk_below (g := gb354) (o := .cells #[.int .i64 a0_0, .int .i64 a0_1, .slice A0_2 l0_2.length c0_2, .int .i64 a0_3, .bool false, .bool true] 24 (0, 0)) (by (with_reducible repeat apply pK); exact BK354.out) hb); have n3_ := Aside0.mk (below_step bl_ hb); have n4_ := Aside0.mk (hbox); have n5_ := Aside0.mk ((le_new hg (below_size bl_) : w.heap.size ≤ gb370)); have n6_ := Aside0.mk ((le_new hg (below_size bl_) : w.heap.size ≤ gb370)); have n7_ := Aside0.mk ((by rw [hg]; exact Nat.ne_of_lt (blk_lt (g := gb354) (o := .cells #[.int .i64 a0_0, .int .i64 a0_1, .slice A0_2 l0_2.length c0_2, .int .i64 a0_3, .bool false, .bool true] 24 (0, 0)) (by (with_reducible repeat apply pK); exact BK354.out)) : gb354 ≠ gb370)); have n8_ := Aside0.mk ((by rw [hg]; exact Nat.ne_of_gt (blk_lt (g := gb354) (o := .cells #[.int .i64 a0_0, .int .i64 a0_1, .slice A0_2 l0_2.length c0_2, .int .i64 a0_3, .bool false, .bool true] 24 (0, 0)) (by (with_reducible repeat apply pK); exact BK354.out)) : gb370 ≠ gb354)); clear HO362; clear HO369; clear BK354; clear HB; have HO362 := n0_; have HO369 := n1_; have BK354 := n2_; have HB := n3_; have BK370 := n4_; have GW370 := n5_; have GE370 := n6_; have NB354_370 := n7_; have NB370_354 := n8_; clear n0_ n1_ n2_ n3_ n4_ n5_ n6_ n7_ n8_; clear hb hbox hg; have hnb20 := NB370_354.out; have hnc20 := NB354_370.out; obtain ⟨hcz21_0, hcz21_1, hcz21_2, hcz21_3, hcz21_4, hcz21_5, hfz21_0, hfz21_1, hfz21_2, hfz21_3, hfz21_4, hfz21_5⟩ := cells6 (show w19.heap[gb370]? = some (.cells #[.int .i64 0, .int .i64 0, .slice none 0 0, .int .i64 0, .bool false, .bool false] _ (0, 0)) from BK370.out); obtain ⟨Ao22, co22, eo22⟩ := Kd.V_slice HO362.out; subst eo22; obtain ⟨hcz23_0, hcz23_1, hcz23_2, hcz23_3, hcz23_4, hcz23_5, hfz23_0, hfz23_1, hfz23_2, hfz23_3, hfz23_4, hfz23_5⟩ := cells6 (show w19.heap[gb354]? = some (.cells #[.int .i64 a0_0, .int .i64 a0_1, .slice A0_2 l0_2.length c0_2, .int .i64 a0_3, .bool false, .bool true] _ (0, 0)) from BK354.out)) | (go_at_call 32; (with_reducible refine (shutterref14_Line.calls k a0_0 a0_1 _ _ l0_2 a0_3 false true a0_3 t372 _ ?side1 ?side2 A8.out).mono ?_); (case side1 => exact Kd.C_below HR0_2.out bl_); (case side2 => exact HC0_2.out); rintro e w24 ⟨v373, rfl, ho0, hb⟩; have n0_ := Aside0.mk (Kd.V_elder' (by (with_reducible repeat apply pV); exact (Kd.V_mono (Kd.V_far (p := ⟨gb370, 5, none⟩) (Kd.V_far (p := ⟨gb370, 4, none⟩) (Kd.V_far (p := ⟨gb370, 3, none⟩) (Kd.V_far (p := ⟨gb370, 2, none⟩) (Kd.V_far (p := ⟨gb370, 1, none⟩) (Kd.V_far (p := ⟨gb370, 0, none⟩) (Kd.V_mono HO362.out (fun k_ hk => (⟨hk, hk.2⟩ : _ ∧ k_ ≠ gb370))) (fun _ hk => hk.2) (.int .i64 t358)) (fun _ hk => hk.2) (.int .i64 t359)) (fun _ hk => hk.2) (.slice Ao22 t360.length co22)) (fun _ hk => hk.2) (.int .i64 t363)) (fun _ hk => hk.2) (.bool t364)) (fun _ hk => hk.2) (.bool t365)) (fun _ h_ => h_.1))) (Kd.R_base ho0) hb); have n1_ := Aside0.mk (Kd.V_elder' (by (with_reducible repeat apply pV); exact (Kd.V_mono (Kd.V_far (p := ⟨gb370, 5, none⟩) (Kd.V_far (p := ⟨gb370, 4, none⟩) (Kd.V_far (p := ⟨gb370, 3, none⟩) (Kd.V_far (p := ⟨gb370, 2, none⟩) (Kd.V_far (p := ⟨gb370, 1, none⟩) (Kd.V_far (p := ⟨gb370, 0, none⟩) (Kd.V_mono HO369.out (fun k_ hk => (⟨hk, hk.2⟩ : _ ∧ k_ ≠ gb370))) (fun _ hk => hk.2) (.int .i64 t358)) (fun _ hk => hk.2) (.int .i64 t359)) (fun _ hk => hk.2) (.slice Ao22 t360.length co22)) (fun _ hk => hk.2) (.int .i64 t363)) (fun _ hk => hk.2) (.bool t364)) (fun _ hk => hk.2) (.bool t365)) (fun _ h_ => h_.1))) (Kd.R_base ho0) hb); have n2_ := Aside0.mk (Kd.R_lower ho0 (below_size bl_)); have n3_ := Aside0.mk (blk_below (g := gb354) (o := .cells #[.int .i64 a0_0, .int .i64 a0_1, .slice A0_2 l0_2.length c0_2, .int .i64 a0_3, .bool false, .bool true] 24 (0, 0)) (by (with_reducible repeat apply pK); refine blk_far ?_ NB354_370.out _; (with_reducible repeat apply pK); refine blk_far ?_ NB354_370.out _; (with_reducible repeat apply pK); refine blk_far ?_ NB354_370.out _; (with_reducible repeat apply pK); refine blk_far ?_ NB354_370.out _; (with_reducible repeat apply pK); refine blk_far ?_ NB354_370.out _; (with_reducible repeat apply pK); refine blk_far ?_ NB354_370.out _; (with_reducible repeat apply pK); exact BK354.out) hb); have n4_ := Aside0.mk (blk_below (g := gb370) (o := .cells #[.int .i64 t358, .int .i64 t359, .slice Ao22 t360.length co22, .int .i64 t363, .bool t364, .bool t365] 24 (0, 0)) (by (with_reducible repeat apply pK); refine blk_put (cs := #[.int .i64 t358, .int .i64 t359, .slice Ao22 t360.length co22, .int .i64 t363, .bool t364, .bool false]) ?_ 5 _ rfl; (with_reducible repeat apply pK); refine blk_put (cs := #[.int .i64 t358, .int .i64 t359, .slice Ao22 t360.length co22, .int .i64 t363, .bool false, .bool false]) ?_ 4 _ rfl; (with_reducible repeat apply pK); refine blk_put (cs := #[.int .i64 t358, .int .i64 t359, .slice Ao22 t360.length co22, .int .i64 0, .bool false, .bool false]) ?_ 3 _ rfl; (with_reducible repeat apply pK); refine blk_put (cs := #[.int .i64 t358, .int .i64 t359, .slice none 0 0, .int .i64 0, .bool false, .bool false]) ?_ 2 _ rfl; (with_reducible repeat apply pK); refine blk_put (cs := #[.int .i64 t358, .int .i64 0, .slice none 0 0, .int .i64 0, .bool false, .bool false]) ?_ 1 _ rfl; (with_reducible repeat apply pK); refine blk_put (cs := #[.int .i64 0, .int .i64 0, .slice none 0 0, .int .i64 0, .bool false, .bool false]) ?_ 0 _ rfl; (with_reducible repeat apply pK); exact BK370.out) hb); have n5_ := Aside0.mk (below_step bl_ hb); clear HO362; clear HO369; clear BK354; clear BK370; clear HB; have HO362 := n0_; have HO369 := n1_; have HO374 := n2_; have BK354 := n3_; have BK370 := n4_; have HB := n5_; clear n0_ n1_ n2_ n3_ n4_ n5_; (try clear hb); (try clear hb2); (try clear hk); (try clear hi); (try clear ho0))))
    go_loopg [8, 9, 10] k (fun kq v8 v9 v10 w' => ∃ (x8_1 : List Int) (x9_1 : Bool) (x10_1 : Int), v9 = .bool x9_1 ∧ v10 = .int .i64 x10_1 ∧ Aside0 (shutterlaw14_EditInserts.l0 kq a1 t372 x8_1 x9_1 x10_1 a0_0 a0_1 l0_2 a0_3 false true t358 t359 t360 t363 t364 t365 = some r) ∧ Aside0 (kq ≤ k) ∧ Aside0 (Kd.R (Kd.int .i64) 3 w' w.heap.size (fun _ => True) v373 t372) ∧ Aside0 (Kd.R (Kd.int .u8) 5 w' w.heap.size (fun _ => True) v8 x8_1) ∧ Aside0 (Kd.V k35 35 w' w.heap.size (fun k_ => some k_ ≠ (v373 : Value).ownBlock ∧ some k_ ≠ (v8 : Value).ownBlock ∧ k_ ≠ gb354 ∧ k_ ≠ gb370) (.slice Ao22 t360.length co22) t360) ∧ Aside0 (w'.heap[gb354]? = some (.cells #[.int .i64 a0_0, .int .i64 a0_1, (.slice A0_2 l0_2.length c0_2), .int .i64 a0_3, .bool false, .bool true] 24 (0, 0))) ∧ Aside0 (w'.heap[gb370]? = some (.cells #[.int .i64 t358, .int .i64 t359, (.slice Ao22 t360.length co22), .int .i64 t363, .bool t364, .bool t365] 24 (0, 0))) ∧ Aside0 (Below w.heap.size w w'))
    case atStart => exact ⟨(([] : List Int)), (false), (0), (by first | rfl | (simp; done) | (simp [*]; done)), (by first | rfl | (simp; done) | (simp [*]; done)), H', ⟨Nat.le_refl _⟩, ⟨by (with_reducible repeat apply pR); exact HO374.out⟩, ⟨by first | exact Kd.R_nil _ _ _ _ _ | exact Kd.N_nil _ _ _ _ _ | exact Kd.V_nil _ _ _ _ _ | exact Kd.Q_nil _ _ _ _ _ | exact Kd.S_nil _ _ _ _ _⟩, ⟨by (with_reducible repeat apply pV); exact Kd.V_mono HO362.out (fun _ hk => ⟨hk.2, ⟨(by simp [Value.ownBlock]), ⟨hk.1.1, hk.1.2⟩⟩⟩)⟩, ⟨by (with_reducible repeat apply pK); exact BK354.out⟩, ⟨by (with_reducible repeat apply pK); exact BK370.out⟩, ⟨bl_⟩⟩
    case round =>
     clear H'
     try clear c2
     try clear p2
     try clear q3
     try clear c4
     try clear c6
     try clear c7
     try clear c20
     try clear hcz11_0
     try clear hcz11_1
     try clear hcz11_2
     try clear hcz11_3
     try clear hcz11_4
     try clear hcz11_5
     try clear hcz13_0
     try clear hcz13_1
     try clear hcz13_2
     try clear hcz13_3
     try clear hcz13_4
     try clear hcz13_5
     try clear hcz15_0
     try clear hcz15_1
     try clear hcz15_2
     try clear hcz15_3
     try clear hcz15_4
     try clear hcz15_5
     try clear hcz17_0
     try clear hcz17_1
     try clear hcz17_2
     try clear hcz17_3
     try clear hcz17_4
     try clear hcz17_5
     try clear hcz21_0
     try clear hcz21_1
     try clear hcz21_2
     try clear hcz21_3
     try clear hcz21_4
     try clear hcz21_5
     try clear hcz23_0
     try clear hcz23_1
     try clear hcz23_2
     try clear hcz23_3
     try clear hcz23_4
     try clear hcz23_5
     try clear hfz11_0
     try clear hfz11_1
     try clear hfz11_2
     try clear hfz11_3
     try clear hfz11_4
     try clear hfz11_5
     try clear hfz13_0
     try clear hfz13_1
     try clear hfz13_2
     try clear hfz13_3
     try clear hfz13_4
     try clear hfz13_5
     try clear hfz15_0
     try clear hfz15_1
     try clear hfz15_2
     try clear hfz15_3
     try clear hfz15_4
     try clear hfz15_5
     try clear hfz17_0
     try clear hfz17_1
     try clear hfz17_2
     try clear hfz17_3
     try clear hfz17_4
     try clear hfz17_5
     try clear hfz21_0
     try clear hfz21_1
     try clear hfz21_2
     try clear hfz21_3
     try clear hfz21_4
     try clear hfz21_5
     try clear hfz23_0
     try clear hfz23_1
     try clear hfz23_2
     try clear hfz23_3
     try clear hfz23_4
     try clear hfz23_5
     try clear q371
     obtain ⟨x8_1, x9_1, x10_1, rfl, rfl, HA, HK1, HO_7, HO_8, HO_371002, BK354, BK370, HB⟩ := hrel
     cases gk with
     | zero => exact absurd HA.out (by simp [shutterlaw14_EditInserts.l0])
     | succ k1 =>
      have H := HA.out
      clear HA
      simp only [shutterlaw14_EditInserts.l0] at H
      by_cases c25 : x10_1 < (t372.length : Int)
      ·rw [if_pos c25] at H
       have c25b0 : decide (x10_1 < (t372.length : Int)) = true := decide_eq_true c25
       clear c25
       by_cases c26 : 0 ≤ x10_1
       ·rw [if_pos c26] at H
        have c26b0 : decide (0 ≤ x10_1) = true := decide_eq_true c26
        clear c26
        by_cases c27 : 0 ≤ (rd t372 x10_1)
        ·rw [if_pos c27] at H
         have c27b0 : decide (0 ≤ (rd t372 x10_1)) = true := decide_eq_true c27
         clear c27
         by_cases c28 : (rd t372 x10_1) < (l0_2.length : Int)
         ·rw [if_pos c28] at H
          have c28b0 : decide ((rd t372 x10_1) < (l0_2.length : Int)) = true := decide_eq_true c28
          clear c28
          by_cases c29 : ((rd_T35 l0_2 (rd t372 x10_1)).f2) = 0
          ·rw [if_pos c29] at H
           have c29b0 : (((rd_T35 l0_2 (rd t372 x10_1)).f2) == 0) = true := beq_iff_eq.mpr c29
           have c29b1 : (((rd_T35 l0_2 (rd t372 x10_1)).f2) != 0) = false := bne_eq_false_iff_eq.mpr c29
           clear c29
           by_cases c30 : x9_1 = true
           ·subst c30
            have H1 : (if x8_1.length < 140737488355328 then (shutterlaw14_EditInserts.l0 k1 a1 t372 (x8_1 ++ [(rd_T35 l0_2 (rd t372 x10_1)).f2]) true (wrap64 (x10_1 + 1)) a0_0 a0_1 l0_2 a0_3 false true t358 t359 t360 t363 t364 t365) else (none)) = some r := by rw [if_pos rfl] at H; exact H
            clear H
            have H := H1
            clear H1
            by_cases c31 : x8_1.length < 140737488355328
            ·rw [if_pos c31] at H
             have LMc31 := Aside0.mk c31
             clear c31
             obtain ⟨y377, hy377⟩ : ∃ y_ : List Int, y_ = (x8_1 ++ [(rd_T35 l0_2 (rd t372 x10_1)).f2]) := ⟨_, rfl⟩
             replace H : (shutterlaw14_EditInserts.l0 k1 a1 t372 y377 true (wrap64 (x10_1 + 1)) a0_0 a0_1 l0_2 a0_3 false true t358 t359 t360 t363 t364 t365) = some r := by first | (rw [hy377]; with_reducible exact H) | (have H2_ := (Option.bind_some _ _).symm.trans H; rw [hy377]; with_reducible exact H2_) | (have H2_ := (Option.bind_some _ _).symm.trans H; with_reducible exact H2_) | with_reducible exact H | (rw [hy377]; exact H) | exact H
             have Ny377 := Aside0.mk hy377
             clear hy377
             have H' := Aside0.mk H
             clear H
             obtain ⟨Ao32, co32, eo32⟩ := Kd.R_slice HO_7.out
             subst eo32
             have hnb33 := NB354_370.out
             have hnc33 := NB370_354.out
             obtain ⟨hcz34_0, hcz34_1, hcz34_2, hcz34_3, hcz34_4, hcz34_5, hfz34_0, hfz34_1, hfz34_2, hfz34_3, hfz34_4, hfz34_5⟩ := cells6 (show wr.heap[gb354]? = some (.cells #[.int .i64 a0_0, .int .i64 a0_1, .slice A0_2 l0_2.length c0_2, .int .i64 a0_3, .bool false, .bool true] _ (0, 0)) from BK354.out)
             have p375 : 0 ≤ (x10_1 : Int) := of_decide_eq_true (by first | (with_reducible assumption) | assumption)
             have q375 : x10_1 < (t372.length : Int) := of_decide_eq_true (by first | (with_reducible assumption) | assumption)
             obtain ⟨ad375, e375, hx375_0⟩ := Kd.at_int (Kd.R_reads' HO_7.out).2.2 x10_1 p375 q375
             cases e375
             replace p375 := eq_true p375
             replace q375 := eq_true q375
             have p376 : 0 ≤ ((rd t372 x10_1) : Int) := of_decide_eq_true (by first | (with_reducible assumption) | assumption)
             have q376 : (rd t372 x10_1) < (l0_2.length : Int) := of_decide_eq_true (by first | (with_reducible assumption) | assumption)
             obtain ⟨ad376, e376, hx376_0, hx376_1, hx376_2, hx376_3, hx376_4, hx376_5⟩ := at_T35 HR0_2.out (rd t372 x10_1) p376 q376
             cases e376
             replace hx376_0 := (HB.out.cell (World.block_lt_of_cell? w _ hx376_0)).trans hx376_0
             replace hx376_1 := (HB.out.cell (World.block_lt_of_cell? w _ hx376_1)).trans hx376_1
             replace hx376_2 := (HB.out.cell (World.block_lt_of_cell? w _ hx376_2)).trans hx376_2
             replace hx376_3 := (HB.out.cell (World.block_lt_of_cell? w _ hx376_3)).trans hx376_3
             replace hx376_4 := (HB.out.cell (World.block_lt_of_cell? w _ hx376_4)).trans hx376_4
             replace hx376_5 := (HB.out.cell (World.block_lt_of_cell? w _ hx376_5)).trans hx376_5
             replace p376 := eq_true p376
             replace q376 := eq_true q376
             go_wp2_with (first | ((with_reducible refine gate_builtin (b := .append) (xs := #[.tmp 56, .tmp 58]) rfl ?_); (try (refine gate_guard (by rfl) ?_; dsimp only)); at_builtin; refine Kd.R_append (Kd.int .u8) (w0 := w) w.heap.size rfl (.tmp 56) (.tmp 58) 47 5 (.int .u8 0) 1 rfl Tryd.underlying47 info5 rfl (by decide) (by omega) u8 x8_1 ((rd_T35 l0_2 (rd t372 x10_1)).f2) [.int .u8 ((rd_T35 l0_2 (rd t372 x10_1)).f2)] (fun _ => True) (fun _ => False) rfl rfl ?aP (fun _ hk => hk.elim) ?aF ?aO ?aB ?aS ?aL ?_; (case aP => exact rfl); (case aB => exact bl_); (case aF => exact (fun _ _ => trivial)); (case aO => exact (by (with_reducible repeat apply pR); exact HO_8.out)); (case aS => exact (below_size bl_)); (case aL => have := LMc31.out; omega); intro v378 w35 ho hb hg hat; rw [← Ny377.out] at ho; have n0_ := Aside0.mk (Kd.R_over' (by (with_reducible repeat apply pR); exact HO_7.out) (Kd.R_typed (by (with_reducible repeat apply pR); exact HO_8.out)) (by decide) hg); have n1_ := Aside0.mk (Kd.V_afterv (ok := (fun k_ => some k_ ≠ (.slice (some ad375) t372.length co32 : Value).ownBlock ∧ k_ ≠ gb354 ∧ k_ ≠ gb370)) (by (with_reducible repeat apply pV); exact Kd.V_mono HO_371002.out (fun _ hk => ⟨⟨hk.1, ⟨hk.2.2.1, hk.2.2.2⟩⟩, hk.2.1⟩)) hg hat); have n2_ := Aside0.mk (blk_grown (g := gb354) (o := .cells #[.int .i64 a0_0, .int .i64 a0_1, .slice (some ad376) l0_2.length c0_2, .int .i64 a0_3, .bool false, .bool true] 24 (0, 0)) (by (with_reducible repeat apply pK); exact BK354.out) hg (Kd.R_ne HO_8.out BK354.out (by decide))); have n3_ := Aside0.mk (blk_grown (g := gb370) (o := .cells #[.int .i64 t358, .int .i64 t359, .slice Ao22 t360.length co22, .int .i64 t363, .bool t364, .bool t365] 24 (0, 0)) (by (with_reducible repeat apply pK); exact BK370.out) hg (Kd.R_ne HO_8.out BK370.out (by decide))); have n4_ := Aside0.mk (hb); have n5_ := Aside0.mk (ho); clear HO_7; clear HO_371002; clear BK354; clear BK370; clear HB; clear HO_8; have HO_7 := n0_; have HO_371002 := n1_; have BK354 := n2_; have BK370 := n3_; have HB := n4_; have HO379 := n5_; clear n0_ n1_ n2_ n3_ n4_ n5_; clear ho hb hg hat))
             repeat (go_quiet (first | ((with_reducible refine gate_builtin (b := .append) (xs := #[.tmp 56, .tmp 58]) rfl ?_); (try (refine gate_guard (by rfl) ?_; dsimp only)); at_builtin; refine Kd.R_append (Kd.int .u8) (w0 := w) w.heap.size rfl (.tmp 56) (.tmp 58) 47 5 (.int .u8 0) 1 rfl Tryd.underlying47 info5 rfl (by decide) (by omega) u8 x8_1 ((rd_T35 l0_2 (rd t372 x10_1)).f2) [.int .u8 ((rd_T35 l0_2 (rd t372 x10_1)).f2)] (fun _ => True) (fun _ => False) rfl rfl ?aP (fun _ hk => hk.elim) ?aF ?aO ?aB ?aS ?aL ?_; (case aP => exact rfl); (case aB => exact bl_); (case aF => exact (fun _ _ => trivial)); (case aO => exact (by (with_reducible repeat apply pR); exact HO_8.out)); (case aS => exact (below_size bl_)); (case aL => have := LMc31.out; omega); intro v378 w35 ho hb hg hat; rw [← Ny377.out] at ho; have n0_ := Aside0.mk (Kd.R_over' (by (with_reducible repeat apply pR); exact HO_7.out) (Kd.R_typed (by (with_reducible repeat apply pR); exact HO_8.out)) (by decide) hg); have n1_ := Aside0.mk (Kd.V_afterv (ok := (fun k_ => some k_ ≠ (.slice (some ad375) t372.length co32 : Value).ownBlock ∧ k_ ≠ gb354 ∧ k_ ≠ gb370)) (by (with_reducible repeat apply pV); exact Kd.V_mono HO_371002.out (fun _ hk => ⟨⟨hk.1, ⟨hk.2.2.1, hk.2.2.2⟩⟩, hk.2.1⟩)) hg hat); have n2_ := Aside0.mk (blk_grown (g := gb354) (o := .cells #[.int .i64 a0_0, .int .i64 a0_1, .slice (some ad376) l0_2.length c0_2, .int .i64 a0_3, .bool false, .bool true] 24 (0, 0)) (by (with_reducible repeat apply pK); exact BK354.out) hg (Kd.R_ne HO_8.out BK354.out (by decide))); have n3_ := Aside0.mk (blk_grown (g := gb370) (o := .cells #[.int .i64 t358, .int .i64 t359, .slice Ao22 t360.length co22, .int .i64 t363, .bool t364, .bool t365] 24 (0, 0)) (by (with_reducible repeat apply pK); exact BK370.out) hg (Kd.R_ne HO_8.out BK370.out (by decide))); have n4_ := Aside0.mk (hb); have n5_ := Aside0.mk (ho); clear HO_7; clear HO_371002; clear BK354; clear BK370; clear HB; clear HO_8; have HO_7 := n0_; have HO_371002 := n1_; have BK354 := n2_; have BK370 := n3_; have HB := n4_; have HO379 := n5_; clear n0_ n1_ n2_ n3_ n4_ n5_; clear ho hb hg hat)); try go_wp2_with (first | ((with_reducible refine gate_builtin (b := .append) (xs := #[.tmp 56, .tmp 58]) rfl ?_); (try (refine gate_guard (by rfl) ?_; dsimp only)); at_builtin; refine Kd.R_append (Kd.int .u8) (w0 := w) w.heap.size rfl (.tmp 56) (.tmp 58) 47 5 (.int .u8 0) 1 rfl Tryd.underlying47 info5 rfl (by decide) (by omega) u8 x8_1 ((rd_T35 l0_2 (rd t372 x10_1)).f2) [.int .u8 ((rd_T35 l0_2 (rd t372 x10_1)).f2)] (fun _ => True) (fun _ => False) rfl rfl ?aP (fun _ hk => hk.elim) ?aF ?aO ?aB ?aS ?aL ?_; (case aP => exact rfl); (case aB => exact bl_); (case aF => exact (fun _ _ => trivial)); (case aO => exact (by (with_reducible repeat apply pR); exact HO_8.out)); (case aS => exact (below_size bl_)); (case aL => have := LMc31.out; omega); intro v378 w35 ho hb hg hat; rw [← Ny377.out] at ho; have n0_ := Aside0.mk (Kd.R_over' (by (with_reducible repeat apply pR); exact HO_7.out) (Kd.R_typed (by (with_reducible repeat apply pR); exact HO_8.out)) (by decide) hg); have n1_ := Aside0.mk (Kd.V_afterv (ok := (fun k_ => some k_ ≠ (.slice (some ad375) t372.length co32 : Value).ownBlock ∧ k_ ≠ gb354 ∧ k_ ≠ gb370)) (by (with_reducible repeat apply pV); exact Kd.V_mono HO_371002.out (fun _ hk => ⟨⟨hk.1, ⟨hk.2.2.1, hk.2.2.2⟩⟩, hk.2.1⟩)) hg hat); have n2_ := Aside0.mk (blk_grown (g := gb354) (o := .cells #[.int .i64 a0_0, .int .i64 a0_1, .slice (some ad376) l0_2.length c0_2, .int .i64 a0_3, .bool false, .bool true] 24 (0, 0)) (by (with_reducible repeat apply pK); exact BK354.out) hg (Kd.R_ne HO_8.out BK354.out (by decide))); have n3_ := Aside0.mk (blk_grown (g := gb370) (o := .cells #[.int .i64 t358, .int .i64 t359, .slice Ao22 t360.length co22, .int .i64 t363, .bool t364, .bool t365] 24 (0, 0)) (by (with_reducible repeat apply pK); exact BK370.out) hg (Kd.R_ne HO_8.out BK370.out (by decide))); have n4_ := Aside0.mk (hb); have n5_ := Aside0.mk (ho); clear HO_7; clear HO_371002; clear BK354; clear BK370; clear HB; clear HO_8; have HO_7 := n0_; have HO_371002 := n1_; have BK354 := n2_; have BK370 := n3_; have HB := n4_; have HO379 := n5_; clear n0_ n1_ n2_ n3_ n4_ n5_; clear ho hb hg hat)))
             go_roundg k1
             case measure => have := HK1.out; omega
             case rel => exact ⟨(y377), (true), (wrap64 (x10_1 + 1)), (by first | rfl | (simp; done) | (simp [*]; done)), (by first | rfl | (simp; done) | (simp [*]; done)), H', ⟨by have := HK1.out; omega⟩, ⟨by (with_reducible repeat apply pR); exact HO_7.out⟩, ⟨by (with_reducible repeat apply pR); exact HO379.out⟩, ⟨by (with_reducible repeat apply pV); exact Kd.V_mono HO_371002.out (fun _ hk => ⟨hk.1.1, ⟨hk.2, ⟨hk.1.2.1, hk.1.2.2⟩⟩⟩)⟩, ⟨by (with_reducible repeat apply pK); exact BK354.out⟩, ⟨by (with_reducible repeat apply pK); exact BK370.out⟩, ⟨bl_⟩⟩
            ·rw [if_neg c31] at H
             exact absurd H (by simp)
           ·replace c30 := Bool.eq_false_iff.mpr c30
            subst c30
            have H1 : (shutterlaw14_EditInserts.l0 k1 a1 t372 x8_1 true (wrap64 (x10_1 + 1)) a0_0 a0_1 l0_2 a0_3 false true t358 t359 t360 t363 t364 t365) = some r := by rw [if_neg (show ¬ (false = true) by decide)] at H; exact H
            clear H
            have H := H1
            clear H1
            have H' := Aside0.mk H
            clear H
            obtain ⟨Ao36, co36, eo36⟩ := Kd.R_slice HO_7.out
            subst eo36
            have hnb37 := NB354_370.out
            have hnc37 := NB370_354.out
            obtain ⟨hcz38_0, hcz38_1, hcz38_2, hcz38_3, hcz38_4, hcz38_5, hfz38_0, hfz38_1, hfz38_2, hfz38_3, hfz38_4, hfz38_5⟩ := cells6 (show wr.heap[gb354]? = some (.cells #[.int .i64 a0_0, .int .i64 a0_1, .slice A0_2 l0_2.length c0_2, .int .i64 a0_3, .bool false, .bool true] _ (0, 0)) from BK354.out)
            have p375 : 0 ≤ (x10_1 : Int) := of_decide_eq_true (by first | (with_reducible assumption) | assumption)
            have q375 : x10_1 < (t372.length : Int) := of_decide_eq_true (by first | (with_reducible assumption) | assumption)
            obtain ⟨ad375, e375, hx375_0⟩ := Kd.at_int (Kd.R_reads' HO_7.out).2.2 x10_1 p375 q375
            cases e375
            replace p375 := eq_true p375
            replace q375 := eq_true q375
            have p376 : 0 ≤ ((rd t372 x10_1) : Int) := of_decide_eq_true (by first | (with_reducible assumption) | assumption)
            have q376 : (rd t372 x10_1) < (l0_2.length : Int) := of_decide_eq_true (by first | (with_reducible assumption) | assumption)
            obtain ⟨ad376, e376, hx376_0, hx376_1, hx376_2, hx376_3, hx376_4, hx376_5⟩ := at_T35 HR0_2.out (rd t372 x10_1) p376 q376
            cases e376
            replace hx376_0 := (HB.out.cell (World.block_lt_of_cell? w _ hx376_0)).trans hx376_0
            replace hx376_1 := (HB.out.cell (World.block_lt_of_cell? w _ hx376_1)).trans hx376_1
            replace hx376_2 := (HB.out.cell (World.block_lt_of_cell? w _ hx376_2)).trans hx376_2
            replace hx376_3 := (HB.out.cell (World.block_lt_of_cell? w _ hx376_3)).trans hx376_3
            replace hx376_4 := (HB.out.cell (World.block_lt_of_cell? w _ hx376_4)).trans hx376_4
            replace hx376_5 := (HB.out.cell (World.block_lt_of_cell? w _ hx376_5)).trans hx376_5
            replace p376 := eq_true p376
            replace q376 := eq_true q376
            go_wp2
            repeat (go_quiet (fail); try go_wp2)
            go_roundg k1
            case measure => have := HK1.out; omega
            case rel => exact ⟨(x8_1), (true), (wrap64 (x10_1 + 1)), (by first | rfl | (simp; done) | (simp [*]; done)), (by first | rfl | (simp; done) | (simp [*]; done)), H', ⟨by have := HK1.out; omega⟩, ⟨by (with_reducible repeat apply pR); exact HO_7.out⟩, ⟨by (with_reducible repeat apply pR); exact HO_8.out⟩, ⟨by (with_reducible repeat apply pV); exact HO_371002.out⟩, ⟨by (with_reducible repeat apply pK); exact BK354.out⟩, ⟨by (with_reducible repeat apply pK); exact BK370.out⟩, ⟨bl_⟩⟩
          ·rw [if_neg c29] at H
           have c29b0 : (((rd_T35 l0_2 (rd t372 x10_1)).f2) == 0) = false := beq_eq_false_iff_ne.mpr c29
           have c29b1 : (((rd_T35 l0_2 (rd t372 x10_1)).f2) != 0) = true := bne_iff_ne.mpr c29
           by_cases c39 : x8_1.length < 140737488355328
           ·rw [if_pos c39] at H
            have LMc39 := Aside0.mk c39
            clear c39
            obtain ⟨y380, hy380⟩ : ∃ y_ : List Int, y_ = (x8_1 ++ [(rd_T35 l0_2 (rd t372 x10_1)).f2]) := ⟨_, rfl⟩
            replace H : (shutterlaw14_EditInserts.l0 k1 a1 t372 y380 x9_1 (wrap64 (x10_1 + 1)) a0_0 a0_1 l0_2 a0_3 false true t358 t359 t360 t363 t364 t365) = some r := by first | (rw [hy380]; with_reducible exact H) | (have H2_ := (Option.bind_some _ _).symm.trans H; rw [hy380]; with_reducible exact H2_) | (have H2_ := (Option.bind_some _ _).symm.trans H; with_reducible exact H2_) | with_reducible exact H | (rw [hy380]; exact H) | exact H
            have Ny380 := Aside0.mk hy380
            clear hy380
            have H' := Aside0.mk H
            clear H
            obtain ⟨Ao40, co40, eo40⟩ := Kd.R_slice HO_7.out
            subst eo40
            have hnb41 := NB354_370.out
            have hnc41 := NB370_354.out
            obtain ⟨hcz42_0, hcz42_1, hcz42_2, hcz42_3, hcz42_4, hcz42_5, hfz42_0, hfz42_1, hfz42_2, hfz42_3, hfz42_4, hfz42_5⟩ := cells6 (show wr.heap[gb354]? = some (.cells #[.int .i64 a0_0, .int .i64 a0_1, .slice A0_2 l0_2.length c0_2, .int .i64 a0_3, .bool false, .bool true] _ (0, 0)) from BK354.out)
            have p375 : 0 ≤ (x10_1 : Int) := of_decide_eq_true (by first | (with_reducible assumption) | assumption)
            have q375 : x10_1 < (t372.length : Int) := of_decide_eq_true (by first | (with_reducible assumption) | assumption)
            obtain ⟨ad375, e375, hx375_0⟩ := Kd.at_int (Kd.R_reads' HO_7.out).2.2 x10_1 p375 q375
            cases e375
            replace p375 := eq_true p375
            replace q375 := eq_true q375
            have p376 : 0 ≤ ((rd t372 x10_1) : Int) := of_decide_eq_true (by first | (with_reducible assumption) | assumption)
            have q376 : (rd t372 x10_1) < (l0_2.length : Int) := of_decide_eq_true (by first | (with_reducible assumption) | assumption)
            obtain ⟨ad376, e376, hx376_0, hx376_1, hx376_2, hx376_3, hx376_4, hx376_5⟩ := at_T35 HR0_2.out (rd t372 x10_1) p376 q376
            cases e376
            replace hx376_0 := (HB.out.cell (World.block_lt_of_cell? w _ hx376_0)).trans hx376_0
            replace hx376_1 := (HB.out.cell (World.block_lt_of_cell? w _ hx376_1)).trans hx376_1
            replace hx376_2 := (HB.out.cell (World.block_lt_of_cell? w _ hx376_2)).trans hx376_2
            replace hx376_3 := (HB.out.cell (World.block_lt_of_cell? w _ hx376_3)).trans hx376_3
            replace hx376_4 := (HB.out.cell (World.block_lt_of_cell? w _ hx376_4)).trans hx376_4
            replace hx376_5 := (HB.out.cell (World.block_lt_of_cell? w _ hx376_5)).trans hx376_5
            replace p376 := eq_true p376
            replace q376 := eq_true q376
            go_wp2_with (first | ((with_reducible refine gate_builtin (b := .append) (xs := #[.tmp 56, .tmp 58]) rfl ?_); (try (refine gate_guard (by rfl) ?_; dsimp only)); at_builtin; refine Kd.R_append (Kd.int .u8) (w0 := w) w.heap.size rfl (.tmp 56) (.tmp 58) 47 5 (.int .u8 0) 1 rfl Tryd.underlying47 info5 rfl (by decide) (by omega) u8 x8_1 ((rd_T35 l0_2 (rd t372 x10_1)).f2) [.int .u8 ((rd_T35 l0_2 (rd t372 x10_1)).f2)] (fun _ => True) (fun _ => False) rfl rfl ?aP (fun _ hk => hk.elim) ?aF ?aO ?aB ?aS ?aL ?_; (case aP => exact rfl); (case aB => exact bl_); (case aF => exact (fun _ _ => trivial)); (case aO => exact (by (with_reducible repeat apply pR); exact HO_8.out)); (case aS => exact (below_size bl_)); (case aL => have := LMc39.out; omega); intro v381 w43 ho hb hg hat; rw [← Ny380.out] at ho; have n0_ := Aside0.mk (Kd.R_over' (by (with_reducible repeat apply pR); exact HO_7.out) (Kd.R_typed (by (with_reducible repeat apply pR); exact HO_8.out)) (by decide) hg); have n1_ := Aside0.mk (Kd.V_afterv (ok := (fun k_ => some k_ ≠ (.slice (some ad375) t372.length co40 : Value).ownBlock ∧ k_ ≠ gb354 ∧ k_ ≠ gb370)) (by (with_reducible repeat apply pV); exact Kd.V_mono HO_371002.out (fun _ hk => ⟨⟨hk.1, ⟨hk.2.2.1, hk.2.2.2⟩⟩, hk.2.1⟩)) hg hat); have n2_ := Aside0.mk (blk_grown (g := gb354) (o := .cells #[.int .i64 a0_0, .int .i64 a0_1, .slice (some ad376) l0_2.length c0_2, .int .i64 a0_3, .bool false, .bool true] 24 (0, 0)) (by (with_reducible repeat apply pK); exact BK354.out) hg (Kd.R_ne HO_8.out BK354.out (by decide))); have n3_ := Aside0.mk (blk_grown (g := gb370) (o := .cells #[.int .i64 t358, .int .i64 t359, .slice Ao22 t360.length co22, .int .i64 t363, .bool t364, .bool t365] 24 (0, 0)) (by (with_reducible repeat apply pK); exact BK370.out) hg (Kd.R_ne HO_8.out BK370.out (by decide))); have n4_ := Aside0.mk (hb); have n5_ := Aside0.mk (ho); clear HO_7; clear HO_371002; clear BK354; clear BK370; clear HB; clear HO_8; have HO_7 := n0_; have HO_371002 := n1_; have BK354 := n2_; have BK370 := n3_; have HB := n4_; have HO382 := n5_; clear n0_ n1_ n2_ n3_ n4_ n5_; clear ho hb hg hat))
            repeat (go_quiet (first | ((with_reducible refine gate_builtin (b := .append) (xs := #[.tmp 56, .tmp 58]) rfl ?_); (try (refine gate_guard (by rfl) ?_; dsimp only)); at_builtin; refine Kd.R_append (Kd.int .u8) (w0 := w) w.heap.size rfl (.tmp 56) (.tmp 58) 47 5 (.int .u8 0) 1 rfl Tryd.underlying47 info5 rfl (by decide) (by omega) u8 x8_1 ((rd_T35 l0_2 (rd t372 x10_1)).f2) [.int .u8 ((rd_T35 l0_2 (rd t372 x10_1)).f2)] (fun _ => True) (fun _ => False) rfl rfl ?aP (fun _ hk => hk.elim) ?aF ?aO ?aB ?aS ?aL ?_; (case aP => exact rfl); (case aB => exact bl_); (case aF => exact (fun _ _ => trivial)); (case aO => exact (by (with_reducible repeat apply pR); exact HO_8.out)); (case aS => exact (below_size bl_)); (case aL => have := LMc39.out; omega); intro v381 w43 ho hb hg hat; rw [← Ny380.out] at ho; have n0_ := Aside0.mk (Kd.R_over' (by (with_reducible repeat apply pR); exact HO_7.out) (Kd.R_typed (by (with_reducible repeat apply pR); exact HO_8.out)) (by decide) hg); have n1_ := Aside0.mk (Kd.V_afterv (ok := (fun k_ => some k_ ≠ (.slice (some ad375) t372.length co40 : Value).ownBlock ∧ k_ ≠ gb354 ∧ k_ ≠ gb370)) (by (with_reducible repeat apply pV); exact Kd.V_mono HO_371002.out (fun _ hk => ⟨⟨hk.1, ⟨hk.2.2.1, hk.2.2.2⟩⟩, hk.2.1⟩)) hg hat); have n2_ := Aside0.mk (blk_grown (g := gb354) (o := .cells #[.int .i64 a0_0, .int .i64 a0_1, .slice (some ad376) l0_2.length c0_2, .int .i64 a0_3, .bool false, .bool true] 24 (0, 0)) (by (with_reducible repeat apply pK); exact BK354.out) hg (Kd.R_ne HO_8.out BK354.out (by decide))); have n3_ := Aside0.mk (blk_grown (g := gb370) (o := .cells #[.int .i64 t358, .int .i64 t359, .slice Ao22 t360.length co22, .int .i64 t363, .bool t364, .bool t365] 24 (0, 0)) (by (with_reducible repeat apply pK); exact BK370.out) hg (Kd.R_ne HO_8.out BK370.out (by decide))); have n4_ := Aside0.mk (hb); have n5_ := Aside0.mk (ho); clear HO_7; clear HO_371002; clear BK354; clear BK370; clear HB; clear HO_8; have HO_7 := n0_; have HO_371002 := n1_; have BK354 := n2_; have BK370 := n3_; have HB := n4_; have HO382 := n5_; clear n0_ n1_ n2_ n3_ n4_ n5_; clear ho hb hg hat)); try go_wp2_with (first | ((with_reducible refine gate_builtin (b := .append) (xs := #[.tmp 56, .tmp 58]) rfl ?_); (try (refine gate_guard (by rfl) ?_; dsimp only)); at_builtin; refine Kd.R_append (Kd.int .u8) (w0 := w) w.heap.size rfl (.tmp 56) (.tmp 58) 47 5 (.int .u8 0) 1 rfl Tryd.underlying47 info5 rfl (by decide) (by omega) u8 x8_1 ((rd_T35 l0_2 (rd t372 x10_1)).f2) [.int .u8 ((rd_T35 l0_2 (rd t372 x10_1)).f2)] (fun _ => True) (fun _ => False) rfl rfl ?aP (fun _ hk => hk.elim) ?aF ?aO ?aB ?aS ?aL ?_; (case aP => exact rfl); (case aB => exact bl_); (case aF => exact (fun _ _ => trivial)); (case aO => exact (by (with_reducible repeat apply pR); exact HO_8.out)); (case aS => exact (below_size bl_)); (case aL => have := LMc39.out; omega); intro v381 w43 ho hb hg hat; rw [← Ny380.out] at ho; have n0_ := Aside0.mk (Kd.R_over' (by (with_reducible repeat apply pR); exact HO_7.out) (Kd.R_typed (by (with_reducible repeat apply pR); exact HO_8.out)) (by decide) hg); have n1_ := Aside0.mk (Kd.V_afterv (ok := (fun k_ => some k_ ≠ (.slice (some ad375) t372.length co40 : Value).ownBlock ∧ k_ ≠ gb354 ∧ k_ ≠ gb370)) (by (with_reducible repeat apply pV); exact Kd.V_mono HO_371002.out (fun _ hk => ⟨⟨hk.1, ⟨hk.2.2.1, hk.2.2.2⟩⟩, hk.2.1⟩)) hg hat); have n2_ := Aside0.mk (blk_grown (g := gb354) (o := .cells #[.int .i64 a0_0, .int .i64 a0_1, .slice (some ad376) l0_2.length c0_2, .int .i64 a0_3, .bool false, .bool true] 24 (0, 0)) (by (with_reducible repeat apply pK); exact BK354.out) hg (Kd.R_ne HO_8.out BK354.out (by decide))); have n3_ := Aside0.mk (blk_grown (g := gb370) (o := .cells #[.int .i64 t358, .int .i64 t359, .slice Ao22 t360.length co22, .int .i64 t363, .bool t364, .bool t365] 24 (0, 0)) (by (with_reducible repeat apply pK); exact BK370.out) hg (Kd.R_ne HO_8.out BK370.out (by decide))); have n4_ := Aside0.mk (hb); have n5_ := Aside0.mk (ho); clear HO_7; clear HO_371002; clear BK354; clear BK370; clear HB; clear HO_8; have HO_7 := n0_; have HO_371002 := n1_; have BK354 := n2_; have BK370 := n3_; have HB := n4_; have HO382 := n5_; clear n0_ n1_ n2_ n3_ n4_ n5_; clear ho hb hg hat)))
            go_roundg k1
            case measure => have := HK1.out; omega
            case rel => exact ⟨(y380), (x9_1), (wrap64 (x10_1 + 1)), (by first | rfl | (simp; done) | (simp [*]; done)), (by first | rfl | (simp; done) | (simp [*]; done)), H', ⟨by have := HK1.out; omega⟩, ⟨by (with_reducible repeat apply pR); exact HO_7.out⟩, ⟨by (with_reducible repeat apply pR); exact HO382.out⟩, ⟨by (with_reducible repeat apply pV); exact Kd.V_mono HO_371002.out (fun _ hk => ⟨hk.1.1, ⟨hk.2, ⟨hk.1.2.1, hk.1.2.2⟩⟩⟩)⟩, ⟨by (with_reducible repeat apply pK); exact BK354.out⟩, ⟨by (with_reducible repeat apply pK); exact BK370.out⟩, ⟨bl_⟩⟩
           ·rw [if_neg c39] at H
            exact absurd H (by simp)
         ·rw [if_neg c28] at H
          exact absurd H (by simp)
        ·rw [if_neg c27] at H
         exact absurd H (by simp)
       ·rw [if_neg c26] at H
        exact absurd H (by simp)
      ·rw [if_neg c25] at H
       have c25b0 : decide (x10_1 < (t372.length : Int)) = false := decide_eq_false c25
       clear c25
       by_cases c44 : x9_1 = true
       ·subst c44
        have H1 : (if (t372.length : Int) = 0 then (none) else (if (wrap64 ((x8_1.length : Int) + 1)) = (t372.length : Int) then (if 0 < (t372.length : Int) then (if 0 ≤ (rd t372 0) then (if (rd t372 0) < (t360.length : Int) then (if ((rd_T35 t360 (rd t372 0)).f2) = a1 then (shutterlaw14_EditInserts.l1 k1 t372 x8_1 0 t358 t359 t360 t363 t364 t365) else (none)) else (none)) else (none)) else (none)) else (none))) = some r := by rw [if_pos rfl] at H; exact H
        clear H
        have H := H1
        clear H1
        by_cases c45 : (t372.length : Int) = 0
        ·rw [if_pos c45] at H
         exact absurd H (by simp)
        ·rw [if_neg c45] at H
         have c45b0 : ((t372.length : Int) == 0) = false := beq_eq_false_iff_ne.mpr c45
         have c45b1 : ((t372.length : Int) != 0) = true := bne_iff_ne.mpr c45
         have c45b2 : ¬ (t372 = []) := fun h_ => c45 (by rw [h_]; rfl)
         by_cases c46 : (wrap64 ((x8_1.length : Int) + 1)) = (t372.length : Int)
         ·rw [if_pos c46] at H
          have c46b0 : ((wrap64 ((x8_1.length : Int) + 1)) == (t372.length : Int)) = true := beq_iff_eq.mpr c46
          have c46b1 : ((wrap64 ((x8_1.length : Int) + 1)) != (t372.length : Int)) = false := bne_eq_false_iff_eq.mpr c46
          clear c46
          by_cases c47 : 0 < (t372.length : Int)
          ·rw [if_pos c47] at H
           have c47b0 : decide (0 < (t372.length : Int)) = true := decide_eq_true c47
           have c47b1 : decide (0 < t372.length) = true := decide_eq_true (by omega)
           clear c47
           by_cases c48 : 0 ≤ (rd t372 0)
           ·rw [if_pos c48] at H
            have c48b0 : decide (0 ≤ (rd t372 0)) = true := decide_eq_true c48
            clear c48
            by_cases c49 : (rd t372 0) < (t360.length : Int)
            ·rw [if_pos c49] at H
             have c49b0 : decide ((rd t372 0) < (t360.length : Int)) = true := decide_eq_true c49
             clear c49
             by_cases c50 : ((rd_T35 t360 (rd t372 0)).f2) = a1
             ·rw [if_pos c50] at H
              have c50b0 : (((rd_T35 t360 (rd t372 0)).f2) == a1) = true := beq_iff_eq.mpr c50
              have c50b1 : (((rd_T35 t360 (rd t372 0)).f2) != a1) = false := bne_eq_false_iff_eq.mpr c50
              clear c50
              have H' := Aside0.mk H
              clear H
              obtain ⟨Ao51, co51, eo51⟩ := Kd.R_slice HO_7.out
              subst eo51
              obtain ⟨Ao52, co52, eo52⟩ := Kd.R_slice HO_8.out
              subst eo52
              have hnb53 := NB370_354.out
              have hnc53 := NB354_370.out
              obtain ⟨hcz54_0, hcz54_1, hcz54_2, hcz54_3, hcz54_4, hcz54_5, hfz54_0, hfz54_1, hfz54_2, hfz54_3, hfz54_4, hfz54_5⟩ := cells6 (show wr.heap[gb370]? = some (.cells #[.int .i64 t358, .int .i64 t359, .slice Ao22 t360.length co22, .int .i64 t363, .bool t364, .bool t365] _ (0, 0)) from BK370.out)
              have p383 : 0 ≤ (0 : Int) := (by omega)
              have q383 : 0 < (t372.length : Int) := of_decide_eq_true (by first | (with_reducible assumption) | assumption)
              obtain ⟨ad383, e383, hx383_0⟩ := Kd.at_int (Kd.R_reads' HO_7.out).2.2 0 p383 q383
              cases e383
              have qi383 : (0 < t372.length) = True := eq_true (by omega)
              (try rw [show ((0 : Int)).toNat = 0 from rfl] at hx383_0)
              (try rw [Addr.add_zero'] at hx383_0)
              replace p383 := eq_true p383
              replace q383 := eq_true q383
              have p384 : 0 ≤ ((rd t372 0) : Int) := of_decide_eq_true (by first | (with_reducible assumption) | assumption)
              have q384 : (rd t372 0) < (t360.length : Int) := of_decide_eq_true (by first | (with_reducible assumption) | assumption)
              obtain ⟨ad384, e384, hx384_0, hx384_1, hx384_2, hx384_3, hx384_4, hx384_5⟩ := at_T35 (Kd.V_reads' HO_371002.out).2.2 (rd t372 0) p384 q384
              cases e384
              replace p384 := eq_true p384
              replace q384 := eq_true q384
              go_wp2
              repeat (go_quiet (fail); try go_wp2)
              go_loopg [12] k1 (fun kq v12 w' => ∃ (x12_2 : Int), v12 = .int .i64 x12_2 ∧ Aside0 (shutterlaw14_EditInserts.l1 kq t372 x8_1 x12_2 t358 t359 t360 t363 t364 t365 = some r) ∧ Aside0 (kq ≤ k1) ∧ Aside0 (Kd.R (Kd.int .i64) 3 w' w.heap.size (fun _ => True) (.slice (some ad383) t372.length co51) t372) ∧ Aside0 (Kd.R (Kd.int .u8) 5 w' w.heap.size (fun _ => True) (.slice Ao52 x8_1.length co52) x8_1) ∧ Aside0 (Kd.V k35 35 w' w.heap.size (fun k_ => some k_ ≠ ((.slice (some ad383) t372.length co51) : Value).ownBlock ∧ some k_ ≠ ((.slice Ao52 x8_1.length co52) : Value).ownBlock ∧ k_ ≠ gb354 ∧ k_ ≠ gb370) (.slice (some ad384) t360.length co22) t360) ∧ Aside0 (w'.heap[gb354]? = some (.cells #[.int .i64 a0_0, .int .i64 a0_1, (.slice A0_2 l0_2.length c0_2), .int .i64 a0_3, .bool false, .bool true] 24 (0, 0))) ∧ Aside0 (w'.heap[gb370]? = some (.cells #[.int .i64 t358, .int .i64 t359, (.slice (some ad384) t360.length co22), .int .i64 t363, .bool t364, .bool t365] 24 (0, 0))) ∧ Aside0 (Below w.heap.size w w'))
              case atStart => exact ⟨(0), (by first | rfl | (simp; done) | (simp [*]; done)), H', ⟨Nat.le_refl _⟩, ⟨by (with_reducible repeat apply pR); exact HO_7.out⟩, ⟨by (with_reducible repeat apply pR); exact HO_8.out⟩, ⟨by (with_reducible repeat apply pV); exact HO_371002.out⟩, ⟨by (with_reducible repeat apply pK); exact BK354.out⟩, ⟨by (with_reducible repeat apply pK); exact BK370.out⟩, ⟨bl_⟩⟩
              case round =>
               clear H'
               try clear c2
               try clear p2
               try clear c3
               try clear p3
               try clear q3
               try clear hx3
               try clear qi3
               try clear c4
               try clear c5
               try clear c6
               try clear p6
               try clear c7
               try clear c20
               try clear c25
               try clear c25b0
               try clear c26
               try clear c26b0
               try clear c27
               try clear c27b0
               try clear c28
               try clear c28b0
               try clear c29
               try clear c29b0
               try clear c29b1
               try clear c30
               try clear c31
               try clear c33
               try clear c37
               try clear p37
               try clear q37
               try clear hx37
               try clear p38
               try clear q38
               try clear hx38
               try clear qi38
               try clear c39
               try clear c41
               try clear c44
               try clear c45
               try clear c45b0
               try clear c45b1
               try clear c45b2
               try clear c46
               try clear c46b0
               try clear c46b1
               try clear c47
               try clear c47b0
               try clear c47b1
               try clear c48
               try clear c48b0
               try clear c49
               try clear c49b0
               try clear c50
               try clear c50b0
               try clear c50b1
               try clear c53
               try clear hcz11_0
               try clear hcz11_1
               try clear hcz11_2
               try clear hcz11_3
               try clear hcz11_4
               try clear hcz11_5
               try clear hcz13_0
               try clear hcz13_1
               try clear hcz13_2
               try clear hcz13_3
               try clear hcz13_4
               try clear hcz13_5
               try clear hcz15_0
               try clear hcz15_1
               try clear hcz15_2
               try clear hcz15_3
               try clear hcz15_4
               try clear hcz15_5
               try clear hcz17_0
               try clear hcz17_1
               try clear hcz17_2
               try clear hcz17_3
               try clear hcz17_4
               try clear hcz17_5
               try clear hcz21_0
               try clear hcz21_1
               try clear hcz21_2
               try clear hcz21_3
               try clear hcz21_4
               try clear hcz21_5
               try clear hcz23_0
               try clear hcz23_1
               try clear hcz23_2
               try clear hcz23_3
               try clear hcz23_4
               try clear hcz23_5
               try clear hcz34_0
               try clear hcz34_1
               try clear hcz34_2
               try clear hcz34_3
               try clear hcz34_4
               try clear hcz34_5
               try clear hcz38_0
               try clear hcz38_1
               try clear hcz38_2
               try clear hcz38_3
               try clear hcz38_4
               try clear hcz38_5
               try clear hcz42_0
               try clear hcz42_1
               try clear hcz42_2
               try clear hcz42_3
               try clear hcz42_4
               try clear hcz42_5
               try clear hcz54_0
               try clear hcz54_1
               try clear hcz54_2
               try clear hcz54_3
               try clear hcz54_4
               try clear hcz54_5
               try clear hfz11_0
               try clear hfz11_1
               try clear hfz11_2
               try clear hfz11_3
               try clear hfz11_4
               try clear hfz11_5
               try clear hfz13_0
               try clear hfz13_1
               try clear hfz13_2
               try clear hfz13_3
               try clear hfz13_4
               try clear hfz13_5
               try clear hfz15_0
               try clear hfz15_1
               try clear hfz15_2
               try clear hfz15_3
               try clear hfz15_4
               try clear hfz15_5
               try clear hfz17_0
               try clear hfz17_1
               try clear hfz17_2
               try clear hfz17_3
               try clear hfz17_4
               try clear hfz17_5
               try clear hfz21_0
               try clear hfz21_1
               try clear hfz21_2
               try clear hfz21_3
               try clear hfz21_4
               try clear hfz21_5
               try clear hfz23_0
               try clear hfz23_1
               try clear hfz23_2
               try clear hfz23_3
               try clear hfz23_4
               try clear hfz23_5
               try clear hfz34_0
               try clear hfz34_1
               try clear hfz34_2
               try clear hfz34_3
               try clear hfz34_4
               try clear hfz34_5
               try clear hfz38_0
               try clear hfz38_1
               try clear hfz38_2
               try clear hfz38_3
               try clear hfz38_4
               try clear hfz38_5
               try clear hfz42_0
               try clear hfz42_1
               try clear hfz42_2
               try clear hfz42_3
               try clear hfz42_4
               try clear hfz42_5
               try clear hfz54_0
               try clear hfz54_1
               try clear hfz54_2
               try clear hfz54_3
               try clear hfz54_4
               try clear hfz54_5
               try clear hx375_0
               try clear hx376_0
               try clear hx376_1
               try clear hx376_2
               try clear hx376_3
               try clear hx376_4
               try clear hx376_5
               try clear hx383_0
               try clear hx384_0
               try clear hx384_1
               try clear hx384_2
               try clear hx384_3
               try clear hx384_4
               try clear hx384_5
               try clear p2
               try clear p375
               try clear p376
               try clear p383
               try clear p384
               try clear q3
               try clear q371
               try clear q375
               try clear q376
               try clear q383
               try clear q384
               obtain ⟨x12_2, rfl, HA, HK2, HO_7, HO_8, HO_371002, BK354, BK370, HB⟩ := hrel
               cases gk with
               | zero => exact absurd HA.out (by simp [shutterlaw14_EditInserts.l1])
               | succ k2 =>
                have H := HA.out
                clear HA
                simp only [shutterlaw14_EditInserts.l1] at H
                by_cases c55 : x12_2 < (x8_1.length : Int)
                ·rw [if_pos c55] at H
                 have c55b0 : decide (x12_2 < (x8_1.length : Int)) = true := decide_eq_true c55
                 clear c55
                 obtain ⟨ji56, hji56⟩ : ∃ j_ : Int, (wrap64 (x12_2 + 1)) = j_ := ⟨_, rfl⟩
                 replace H : (if 0 ≤ (ji56) then (if (ji56) < (t372.length : Int) then (if 0 ≤ (rd t372 (ji56)) then (if (rd t372 (ji56)) < (t360.length : Int) then (if 0 ≤ x12_2 then (if ((rd_T35 t360 (rd t372 (ji56))).f2) = (rd x8_1 x12_2) then (shutterlaw14_EditInserts.l1 k2 t372 x8_1 ji56 t358 t359 t360 t363 t364 t365) else (none)) else (none)) else (none)) else (none)) else (none)) else (none)) = some r := by first | (rw [hji56] at H; exact H) | (simp only [hji56] at H ⊢; exact H)
                 have hji56w : (IntKind.i64.wrap (x12_2 + 1)) = ji56 := (i64_w _).trans hji56
                 by_cases c57 : 0 ≤ (ji56)
                 ·rw [if_pos c57] at H
                  have c57b0 : decide (0 ≤ (ji56)) = true := decide_eq_true c57
                  clear c57
                  by_cases c58 : (ji56) < (t372.length : Int)
                  ·rw [if_pos c58] at H
                   have c58b0 : decide ((ji56) < (t372.length : Int)) = true := decide_eq_true c58
                   clear c58
                   by_cases c59 : 0 ≤ (rd t372 (ji56))
                   ·rw [if_pos c59] at H
                    have c59b0 : decide (0 ≤ (rd t372 (ji56))) = true := decide_eq_true c59
                    clear c59
                    by_cases c60 : (rd t372 (ji56)) < (t360.length : Int)
                    ·rw [if_pos c60] at H
                     have c60b0 : decide ((rd t372 (ji56)) < (t360.length : Int)) = true := decide_eq_true c60
                     clear c60
                     by_cases c61 : 0 ≤ x12_2
                     ·rw [if_pos c61] at H
                      have c61b0 : decide (0 ≤ x12_2) = true := decide_eq_true c61
                      clear c61
                      by_cases c62 : ((rd_T35 t360 (rd t372 (ji56))).f2) = (rd x8_1 x12_2)
                      ·rw [if_pos c62] at H
                       have c62b0 : (((rd_T35 t360 (rd t372 (ji56))).f2) == (rd x8_1 x12_2)) = true := beq_iff_eq.mpr c62
                       have c62b1 : (((rd_T35 t360 (rd t372 (ji56))).f2) != (rd x8_1 x12_2)) = false := bne_eq_false_iff_eq.mpr c62
                       clear c62
                       have H' := Aside0.mk H
                       clear H
                       have hnb63 := NB370_354.out
                       have hnc63 := NB354_370.out
                       obtain ⟨hcz64_0, hcz64_1, hcz64_2, hcz64_3, hcz64_4, hcz64_5, hfz64_0, hfz64_1, hfz64_2, hfz64_3, hfz64_4, hfz64_5⟩ := cells6 (show wr.heap[gb370]? = some (.cells #[.int .i64 t358, .int .i64 t359, .slice (some ad384) t360.length co22, .int .i64 t363, .bool t364, .bool t365] _ (0, 0)) from BK370.out)
                       have p385 : 0 ≤ ((ji56) : Int) := of_decide_eq_true (by first | (with_reducible assumption) | assumption)
                       have q385 : (ji56) < (t372.length : Int) := of_decide_eq_true (by first | (with_reducible assumption) | assumption)
                       obtain ⟨ad385, e385, hx385_0⟩ := Kd.at_int (Kd.R_reads' HO_7.out).2.2 (ji56) p385 q385
                       obtain rfl : ad383 = ad385 := (by injection e385)
                       replace p385 := eq_true p385
                       replace q385 := eq_true q385
                       have p386 : 0 ≤ ((rd t372 (ji56)) : Int) := of_decide_eq_true (by first | (with_reducible assumption) | assumption)
                       have q386 : (rd t372 (ji56)) < (t360.length : Int) := of_decide_eq_true (by first | (with_reducible assumption) | assumption)
                       obtain ⟨ad386, e386, hx386_0, hx386_1, hx386_2, hx386_3, hx386_4, hx386_5⟩ := at_T35 (Kd.V_reads' HO_371002.out).2.2 (rd t372 (ji56)) p386 q386
                       obtain rfl : ad384 = ad386 := (by injection e386)
                       replace p386 := eq_true p386
                       replace q386 := eq_true q386
                       have p387 : 0 ≤ (x12_2 : Int) := of_decide_eq_true (by first | (with_reducible assumption) | assumption)
                       have q387 : x12_2 < (x8_1.length : Int) := of_decide_eq_true (by first | (with_reducible assumption) | assumption)
                       obtain ⟨ad387, e387, hx387_0⟩ := Kd.at_int (Kd.R_reads' HO_8.out).2.2 x12_2 p387 q387
                       cases e387
                       replace p387 := eq_true p387
                       replace q387 := eq_true q387
                       go_wp2
                       repeat (go_quiet (fail); try go_wp2)
                       go_roundg k2
                       case measure => have := HK1.out; have := HK2.out; omega
                       case rel => exact ⟨(ji56), (by first | rfl | (simp; done) | (simp only [← hji56] <;> (first | rfl | simp)) | (simp [*]; done)), H', ⟨by have := HK1.out; have := HK2.out; omega⟩, ⟨by (with_reducible repeat apply pR); exact HO_7.out⟩, ⟨by (with_reducible repeat apply pR); exact HO_8.out⟩, ⟨by (with_reducible repeat apply pV); exact HO_371002.out⟩, ⟨by (with_reducible repeat apply pK); exact BK354.out⟩, ⟨by (with_reducible repeat apply pK); exact BK370.out⟩, ⟨bl_⟩⟩
                      ·rw [if_neg c62] at H
                       exact absurd H (by simp)
                     ·rw [if_neg c61] at H
                      exact absurd H (by simp)
                    ·rw [if_neg c60] at H
                     exact absurd H (by simp)
                   ·rw [if_neg c59] at H
                    exact absurd H (by simp)
                  ·rw [if_neg c58] at H
                   exact absurd H (by simp)
                 ·rw [if_neg c57] at H
                  exact absurd H (by simp)
                ·rw [if_neg c55] at H
                 have c55b0 : decide (x12_2 < (x8_1.length : Int)) = false := decide_eq_false c55
                 clear c55
                 obtain rfl := Option.some.inj H
                 go_wp2
                 repeat (go_quiet (fail); try go_wp2)
                 go_ret
                 exact ⟨by first | rfl | (simp [errW_none, errW_some] <;> rfl) | (simp [*, errW_none, errW_some] <;> rfl), bl_⟩
             ·rw [if_neg c50] at H
              exact absurd H (by simp)
            ·rw [if_neg c49] at H
             exact absurd H (by simp)
           ·rw [if_neg c48] at H
            exact absurd H (by simp)
          ·rw [if_neg c47] at H
           exact absurd H (by simp)
         ·rw [if_neg c46] at H
          exact absurd H (by simp)
       ·replace c44 := Bool.eq_false_iff.mpr c44
        subst c44
        have H1 : (none) = some r := by rw [if_neg (show ¬ (false = true) by decide)] at H; exact H
        clear H
        have H := H1
        clear H1
        exact absurd H (by simp)
   ·have H1 : (some true) = some r := by rw [if_neg (show ¬ (some q371).isNone = true by simp)] at H; exact H
    clear H
    have H := H1
    clear H1
    try simp only [errW_none, errW_some]
    obtain rfl := Option.some.inj H
    go_enter Tryd.func7, Tryd.ntmps7
    go_wp2_with (first | ((with_reducible refine gate_dst (N := 2) rfl ?_); (try (refine gate_guard (by rfl) ?_; dsimp only)); refine box_event ?hg (N := 2) ?hd (cs := #[.int .i64 a0_0, .int .i64 a0_1, .slice A0_2 l0_2.length c0_2, .int .i64 a0_3, .bool a0_4, .bool a0_5]) (t := 24) ?hr ?_; (case hd => rfl); (case hg => rfl); (case hr => first | (go_simp; done) | (go_simp; rfl)); intro gb354 hg w65 hbox hb; have n0_ := Aside0.mk (below_step bl_ hb); have n1_ := Aside0.mk (hbox); have n2_ := Aside0.mk ((le_new hg (below_size bl_) : w.heap.size ≤ gb354)); have n3_ := Aside0.mk ((le_new hg (below_size bl_) : w.heap.size ≤ gb354)); clear HB; have HB := n0_; have BK354 := n1_; have GW354 := n2_; have GE354 := n3_; clear n0_ n1_ n2_ n3_; clear hb hbox hg) | (go_at_call 30; (with_reducible refine (shutterlaw14_awake.calls k  true _ ?sideG A3.out).mono ?_); (case sideG => exact laidG_below HG.out bl_ rfl); rintro e w66 ⟨rfl, hb⟩; have n0_ := Aside0.mk (blk_below (g := gb354) (o := .cells #[.int .i64 a0_0, .int .i64 a0_1, .slice A0_2 l0_2.length c0_2, .int .i64 a0_3, .bool a0_4, .bool a0_5] 24 (0, 0)) (by (with_reducible repeat apply pK); exact BK354.out) hb); have n1_ := Aside0.mk (below_step bl_ hb); clear BK354; clear HB; have BK354 := n0_; have HB := n1_; clear n0_ n1_; (try clear hb); (try clear hb2); (try clear hk); (try clear hi); obtain ⟨hcz67_0, hcz67_1, hcz67_2, hcz67_3, hcz67_4, hcz67_5, hfz67_0, hfz67_1, hfz67_2, hfz67_3, hfz67_4, hfz67_5⟩ := cells6 (show w66.heap[gb354]? = some (.cells #[.int .i64 a0_0, .int .i64 a0_1, .slice A0_2 l0_2.length c0_2, .int .i64 a0_3, .bool a0_4, .bool a0_5] _ (0, 0)) from BK354.out)) | (go_at_call 18; (with_reducible refine (shutterref10_Few.calls k a0_0 a0_1 _ _ l0_2 a0_3 a0_4 a0_5 true _ ?side1 ?side2 A5.out).mono ?_); (case side1 => repeat (first | exact (Kd.C_below HR0_2.out HB.out) | (with_reducible apply pC))); (case side2 => exact HC0_2.out); rintro e w68 ⟨rfl, hb⟩; have n0_ := Aside0.mk (blk_below (g := gb354) (o := .cells #[.int .i64 a0_0, .int .i64 a0_1, .slice A0_2 l0_2.length c0_2, .int .i64 a0_3, .bool a0_4, .bool a0_5] 24 (0, 0)) (by (with_reducible repeat apply pK); exact BK354.out) hb); have n1_ := Aside0.mk (below_step bl_ hb); clear BK354; clear HB; have BK354 := n0_; have HB := n1_; clear n0_ n1_; (try clear hb); (try clear hb2); (try clear hk); (try clear hi); obtain ⟨hcz69_0, hcz69_1, hcz69_2, hcz69_3, hcz69_4, hcz69_5, hfz69_0, hfz69_1, hfz69_2, hfz69_3, hfz69_4, hfz69_5⟩ := cells6 (show w68.heap[gb354]? = some (.cells #[.int .i64 a0_0, .int .i64 a0_1, .slice A0_2 l0_2.length c0_2, .int .i64 a0_3, .bool a0_4, .bool a0_5] _ (0, 0)) from BK354.out)) | ((with_reducible refine gate_store (t := 4) (p := 21) rfl ?_); (try (rw [drewN_self w68]; generalize hq_ : World.drewN w68 _ = w68; have n0_ := Aside0.mk (blk_at hq_ BK354.out); have n1_ := Aside0.mk (below_at hq_ HB.out); clear hq_ BK354 HB; have BK354 := n0_; have HB := n1_; clear n0_ n1_)); refine store_event (t := 4) (p := 21) (v := ?vo_w70) (w1 := (w68.setCell ⟨gb354, 5, none⟩ (.bool true))) ?hg ?ho ?hn ?hr ?_; (case ho => rfl); (case hg => rfl); (case hn => rfl); (case hr => first | (go_simp; done) | (go_simp; rfl)); intro w70 hw; have n0_ : Aside0 (w70.heap[gb354]? = some (.cells #[.int .i64 a0_0, .int .i64 a0_1, .slice A0_2 l0_2.length c0_2, .int .i64 a0_3, .bool a0_4, .bool true] 24 (0, 0))) := ⟨(by rw [hw]; exact (by (with_reducible repeat apply pK); refine blk_put (cs := #[.int .i64 a0_0, .int .i64 a0_1, .slice A0_2 l0_2.length c0_2, .int .i64 a0_3, .bool a0_4, .bool a0_5]) ?_ 5 _ rfl; (with_reducible repeat apply pK); exact BK354.out))⟩; have n1_ : Aside0 (Below w.heap.size w w70) := ⟨(by rw [hw]; exact bl_)⟩; clear hw; clear BK354; clear HB; have BK354 := n0_; have HB := n1_; clear n0_ n1_; obtain ⟨hcz71_0, hcz71_1, hcz71_2, hcz71_3, hcz71_4, hcz71_5, hfz71_0, hfz71_1, hfz71_2, hfz71_3, hfz71_4, hfz71_5⟩ := cells6 (show w70.heap[gb354]? = some (.cells #[.int .i64 a0_0, .int .i64 a0_1, .slice A0_2 l0_2.length c0_2, .int .i64 a0_3, .bool a0_4, .bool true] _ (0, 0)) from BK354.out)) | ((with_reducible refine gate_store (t := 4) (p := 22) rfl ?_); (try (rw [drewN_self w70]; generalize hq_ : World.drewN w70 _ = w70; have n0_ := Aside0.mk (blk_at hq_ BK354.out); have n1_ := Aside0.mk (below_at hq_ HB.out); clear hq_ BK354 HB; have BK354 := n0_; have HB := n1_; clear n0_ n1_)); refine store_event (t := 4) (p := 22) (v := ?vo_w72) (w1 := (w70.setCell ⟨gb354, 4, none⟩ (.bool false))) ?hg ?ho ?hn ?hr ?_; (case ho => rfl); (case hg => rfl); (case hn => rfl); (case hr => first | (go_simp; done) | (go_simp; rfl)); intro w72 hw; have n0_ : Aside0 (w72.heap[gb354]? = some (.cells #[.int .i64 a0_0, .int .i64 a0_1, .slice A0_2 l0_2.length c0_2, .int .i64 a0_3, .bool false, .bool true] 24 (0, 0))) := ⟨(by rw [hw]; exact (by (with_reducible repeat apply pK); refine blk_put (cs := #[.int .i64 a0_0, .int .i64 a0_1, .slice A0_2 l0_2.length c0_2, .int .i64 a0_3, .bool a0_4, .bool true]) ?_ 4 _ rfl; (with_reducible repeat apply pK); exact BK354.out))⟩; have n1_ : Aside0 (Below w.heap.size w w72) := ⟨(by rw [hw]; exact bl_)⟩; clear hw; clear BK354; clear HB; have BK354 := n0_; have HB := n1_; clear n0_ n1_; obtain ⟨hcz73_0, hcz73_1, hcz73_2, hcz73_3, hcz73_4, hcz73_5, hfz73_0, hfz73_1, hfz73_2, hfz73_3, hfz73_4, hfz73_5⟩ := cells6 (show w72.heap[gb354]? = some (.cells #[.int .i64 a0_0, .int .i64 a0_1, .slice A0_2 l0_2.length c0_2, .int .i64 a0_3, .bool false, .bool true] _ (0, 0)) from BK354.out)) | (go_at_call 31; (with_reducible refine (edit_Type.calls k a0_0 a0_1 (fun k_ => k_ < w.heap.size) _ _ l0_2 a0_3 false true a1 t358 t359 t360 t363 t364 t365 (some q371) t367 _ ?side1 A7.out).mono ?_); (case side1 => exact Kd.V_mk HC0_2.out (Kd.F_below (Kd.C_F k35_heap HR0_2.out) bl_)); rintro e w74 ⟨v361, v368, rfl, ho0, ho1, hb⟩; have n0_ := Aside0.mk (Kd.V_lower (Kd.V_mono (ok' := fun k_ => k_ ≠ gb354) ho0 (fun k_ hk_ => Or.elim hk_ (fun hs_ => fun e_ => Nat.not_le.2 hs_ (by rw [e_]; exact GW354.out)) (fun hn_ => (Kd.freshB (g := gb354) (o := .cells #[.int .i64 a0_0, .int .i64 a0_1, .slice A0_2 l0_2.length c0_2, .int .i64 a0_3, .bool false, .bool true] 24 (0, 0)) (by (with_reducible repeat apply pK); exact BK354.out) k_ hn_)))) (below_size bl_)); have n1_ := Aside0.mk (Kd.V_lower (Kd.V_mono (ok' := fun k_ => k_ ≠ gb354) ho1 (fun k_ hk_ => Or.elim hk_ (fun hs_ => fun e_ => Nat.not_le.2 hs_ (by rw [e_]; exact GW354.out)) (fun hn_ => (Kd.freshB (g := gb354) (o := .cells #[.int .i64 a0_0, .int .i64 a0_1, .slice A0_2 l0_2.length c0_2, .int .i64 a0_3, .bool false, .bool true] 24 (0, 0)) (by (with_reducible repeat apply pK); exact BK354.out) k_ hn_)))) (below_size bl_)); have n2_ := Aside0.mk (blk_below (g := gb354) (o := .cells #[.int .i64 a0_0, .int .i64 a0_1, .slice A0_2 l0_2.length c0_2, .int .i64 a0_3, .bool false, .bool true] 24 (0, 0)) (by (with_reducible repeat apply pK); exact BK354.out) hb); have n3_ := Aside0.mk (below_step bl_ hb); clear BK354; clear HB; have HO362 := n0_; have HO369 := n1_; have BK354 := n2_; have HB := n3_; clear n0_ n1_ n2_ n3_; (try clear hb); (try clear hb2); (try clear hk); (try clear hi); (try clear ho0); (try clear ho1); (try simp only [errW_none, errW_some])) | ((with_reducible refine gate_dst (N := 5) rfl ?_); (try (refine gate_guard (by rfl) ?_; dsimp only)); refine box_event ?hg (N := 5) ?hd (cs := #[.int .i64 0, .int .i64 0, .slice none 0 0, .int .i64 0, .bool false, .bool false]) (t := 24) ?hr ?_; (case hd => rfl); (case hg => rfl); (case hr => first | (go_simp; done) | (go_simp; rfl)); intro gb370 hg w75 hbox hb; have n0_ := Aside0.mk (Kd.V_below (Kd.V_elderB (by (with_reducible repeat apply pV); exact HO362.out) gb370 (Nat.le_of_eq hg.symm)) hb); have n1_ := Aside0.mk (Kd.V_below (Kd.V_elderB (by (with_reducible repeat apply pV); exact HO369.out) gb370 (Nat.le_of_eq hg.symm)) hb); have n2_ := Aside0.mk (blk_below (g := gb354) (o := .cells #[.int .i64 a0_0, .int .i64 a0_1, .slice A0_2 l0_2.length c0_2, .int .i64 a0_3, .bool false, .bool true] 24 (0, 0)) (by (with_reducible repeat apply pK); exact BK354.out) hb); have n3_ := Aside0.mk (below_step bl_ hb); have n4_ := Aside0.mk (hbox); have n5_ := Aside0.mk ((le_new hg (below_size bl_) : w.heap.size ≤ gb370)); have n6_ := Aside0.mk ((le_new hg (below_size bl_) : w.heap.size ≤ gb370)); have n7_ := Aside0.mk ((by rw [hg]; exact Nat.ne_of_lt (blk_lt (g := gb354) (o := .cells #[.int .i64 a0_0, .int .i64 a0_1, .slice A0_2 l0_2.length c0_2, .int .i64 a0_3, .bool false, .bool true] 24 (0, 0)) (by (with_reducible repeat apply pK); exact BK354.out)) : gb354 ≠ gb370)); have n8_ := Aside0.mk ((by rw [hg]; exact Nat.ne_of_gt (blk_lt (g := gb354) (o := .cells #[.int .i64 a0_0, .int .i64 a0_1, .slice A0_2 l0_2.length c0_2, .int .i64 a0_3, .bool false, .bool true] 24 (0, 0)) (by (with_reducible repeat apply pK); exact BK354.out)) : gb370 ≠ gb354)); clear HO362; clear HO369; clear BK354; clear HB; have HO362 := n0_; have HO369 := n1_; have BK354 := n2_; have HB := n3_; have BK370 := n4_; have GW370 := n5_; have GE370 := n6_; have NB354_370 := n7_; have NB370_354 := n8_; clear n0_ n1_ n2_ n3_ n4_ n5_ n6_ n7_ n8_; clear hb hbox hg; have hnb76 := NB370_354.out; have hnc76 := NB354_370.out; obtain ⟨hcz77_0, hcz77_1, hcz77_2, hcz77_3, hcz77_4, hcz77_5, hfz77_0, hfz77_1, hfz77_2, hfz77_3, hfz77_4, hfz77_5⟩ := cells6 (show w75.heap[gb370]? = some (.cells #[.int .i64 0, .int .i64 0, .slice none 0 0, .int .i64 0, .bool false, .bool false] _ (0, 0)) from BK370.out); obtain ⟨Ao78, co78, eo78⟩ := Kd.V_slice HO362.out; subst eo78))
    repeat (go_quiet (first | ((with_reducible refine gate_dst (N := 2) rfl ?_); (try (refine gate_guard (by rfl) ?_; dsimp only)); refine box_event ?hg (N := 2) ?hd (cs := #[.int .i64 a0_0, .int .i64 a0_1, .slice A0_2 l0_2.length c0_2, .int .i64 a0_3, .bool a0_4, .bool a0_5]) (t := 24) ?hr ?_; (case hd => rfl); (case hg => rfl); (case hr => first | (go_simp; done) | (go_simp; rfl)); intro gb354 hg w65 hbox hb; have n0_ := Aside0.mk (below_step bl_ hb); have n1_ := Aside0.mk (hbox); have n2_ := Aside0.mk ((le_new hg (below_size bl_) : w.heap.size ≤ gb354)); have n3_ := Aside0.mk ((le_new hg (below_size bl_) : w.heap.size ≤ gb354)); clear HB; have HB := n0_; have BK354 := n1_; have GW354 := n2_; have GE354 := n3_; clear n0_ n1_ n2_ n3_; clear hb hbox hg) | (go_at_call 30; (with_reducible refine (shutterlaw14_awake.calls k  true _ ?sideG A3.out).mono ?_); (case sideG => exact laidG_below HG.out bl_ rfl); rintro e w66 ⟨rfl, hb⟩; have n0_ := Aside0.mk (blk_below (g := gb354) (o := .cells #[.int .i64 a0_0, .int .i64 a0_1, .slice A0_2 l0_2.length c0_2, .int .i64 a0_3, .bool a0_4, .bool a0_5] 24 (0, 0)) (by (with_reducible repeat apply pK); exact BK354.out) hb); have n1_ := Aside0.mk (below_step bl_ hb); clear BK354; clear HB; have BK354 := n0_; have HB := n1_; clear n0_ n1_; (try clear hb); (try clear hb2); (try clear hk); (try clear hi); obtain ⟨hcz67_0, hcz67_1, hcz67_2, hcz67_3, hcz67_4, hcz67_5, hfz67_0, hfz67_1, hfz67_2, hfz67_3, hfz67_4, hfz67_5⟩ := cells6 (show w66.heap[gb354]? = some (.cells #[.int .i64 a0_0, .int .i64 a0_1, .slice A0_2 l0_2.length c0_2, .int .i64 a0_3, .bool a0_4, .bool a0_5] _ (0, 0)) from BK354.out)) | (go_at_call 18; (with_reducible refine (shutterref10_Few.calls k a0_0 a0_1 _ _ l0_2 a0_3 a0_4 a0_5 true _ ?side1 ?side2 A5.out).mono ?_); (case side1 => repeat (first | exact (Kd.C_below HR0_2.out HB.out) | (with_reducible apply pC))); (case side2 => exact HC0_2.out); rintro e w68 ⟨rfl, hb⟩; have n0_ := Aside0.mk (blk_below (g := gb354) (o := .cells #[.int .i64 a0_0, .int .i64 a0_1, .slice A0_2 l0_2.length c0_2, .int .i64 a0_3, .bool a0_4, .bool a0_5] 24 (0, 0)) (by (with_reducible repeat apply pK); exact BK354.out) hb); have n1_ := Aside0.mk (below_step bl_ hb); clear BK354; clear HB; have BK354 := n0_; have HB := n1_; clear n0_ n1_; (try clear hb); (try clear hb2); (try clear hk); (try clear hi); obtain ⟨hcz69_0, hcz69_1, hcz69_2, hcz69_3, hcz69_4, hcz69_5, hfz69_0, hfz69_1, hfz69_2, hfz69_3, hfz69_4, hfz69_5⟩ := cells6 (show w68.heap[gb354]? = some (.cells #[.int .i64 a0_0, .int .i64 a0_1, .slice A0_2 l0_2.length c0_2, .int .i64 a0_3, .bool a0_4, .bool a0_5] _ (0, 0)) from BK354.out)) | ((with_reducible refine gate_store (t := 4) (p := 21) rfl ?_); (try (rw [drewN_self w68]; generalize hq_ : World.drewN w68 _ = w68; have n0_ := Aside0.mk (blk_at hq_ BK354.out); have n1_ := Aside0.mk (below_at hq_ HB.out); clear hq_ BK354 HB; have BK354 := n0_; have HB := n1_; clear n0_ n1_)); refine store_event (t := 4) (p := 21) (v := ?vo_w70) (w1 := (w68.setCell ⟨gb354, 5, none⟩ (.bool true))) ?hg ?ho ?hn ?hr ?_; (case ho => rfl); (case hg => rfl); (case hn => rfl); (case hr => first | (go_simp; done) | (go_simp; rfl)); intro w70 hw; have n0_ : Aside0 (w70.heap[gb354]? = some (.cells #[.int .i64 a0_0, .int .i64 a0_1, .slice A0_2 l0_2.length c0_2, .int .i64 a0_3, .bool a0_4, .bool true] 24 (0, 0))) := ⟨(by rw [hw]; exact (by (with_reducible repeat apply pK); refine blk_put (cs := #[.int .i64 a0_0, .int .i64 a0_1, .slice A0_2 l0_2.length c0_2, .int .i64 a0_3, .bool a0_4, .bool a0_5]) ?_ 5 _ rfl; (with_reducible repeat apply pK); exact BK354.out))⟩; have n1_ : Aside0 (Below w.heap.size w w70) := ⟨(by rw [hw]; exact bl_)⟩; clear hw; clear BK354; clear HB; have BK354 := n0_; have HB := n1_; clear n0_ n1_; obtain ⟨hcz71_0, hcz71_1, hcz71_2, hcz71_3, hcz71_4, hcz71_5, hfz71_0, hfz71_1, hfz71_2, hfz71_3, hfz71_4, hfz71_5⟩ := cells6 (show w70.heap[gb354]? = some (.cells #[.int .i64 a0_0, .int .i64 a0_1, .slice A0_2 l0_2.length c0_2, .int .i64 a0_3, .bool a0_4, .bool true] _ (0, 0)) from BK354.out)) | ((with_reducible refine gate_store (t := 4) (p := 22) rfl ?_); (try (rw [drewN_self w70]; generalize hq_ : World.drewN w70 _ = w70; have n0_ := Aside0.mk (blk_at hq_ BK354.out); have n1_ := Aside0.mk (below_at hq_ HB.out); clear hq_ BK354 HB; have BK354 := n0_; have HB := n1_; clear n0_ n1_)); refine store_event (t := 4) (p := 22) (v := ?vo_w72) (w1 := (w70.setCell ⟨gb354, 4, none⟩ (.bool false))) ?hg ?ho ?hn ?hr ?_; (case ho => rfl); (case hg => rfl); (case hn => rfl); (case hr => first | (go_simp; done) | (go_simp; rfl)); intro w72 hw; have n0_ : Aside0 (w72.heap[gb354]? = some (.cells #[.int .i64 a0_0, .int .i64 a0_1, .slice A0_2 l0_2.length c0_2, .int .i64 a0_3, .bool false, .bool true] 24 (0, 0))) := ⟨(by rw [hw]; exact (by (with_reducible repeat apply pK); refine blk_put (cs := #[.int .i64 a0_0, .int .i64 a0_1, .slice A0_2 l0_2.length c0_2, .int .i64 a0_3, .bool a0_4, .bool true]) ?_ 4 _ rfl; (with_reducible repeat apply pK); exact BK354.out))⟩; have n1_ : Aside0 (Below w.heap.size w w72) := ⟨(by rw [hw]; exact bl_)⟩; clear hw; clear BK354; clear HB; have BK354 := n0_; have HB := n1_; clear n0_ n1_; obtain ⟨hcz73_0, hcz73_1, hcz73_2, hcz73_3, hcz73_4, hcz73_5, hfz73_0, hfz73_1, hfz73_2, hfz73_3, hfz73_4, hfz73_5⟩ := cells6 (show w72.heap[gb354]? = some (.cells #[.int .i64 a0_0, .int .i64 a0_1, .slice A0_2 l0_2.length c0_2, .int .i64 a0_3, .bool false, .bool true] _ (0, 0)) from BK354.out)) | (go_at_call 31; (with_reducible refine (edit_Type.calls k a0_0 a0_1 (fun k_ => k_ < w.heap.size) _ _ l0_2 a0_3 false true a1 t358 t359 t360 t363 t364 t365 (some q371) t367 _ ?side1 A7.out).mono ?_); (case side1 => exact Kd.V_mk HC0_2.out (Kd.F_below (Kd.C_F k35_heap HR0_2.out) bl_)); rintro e w74 ⟨v361, v368, rfl, ho0, ho1, hb⟩; have n0_ := Aside0.mk (Kd.V_lower (Kd.V_mono (ok' := fun k_ => k_ ≠ gb354) ho0 (fun k_ hk_ => Or.elim hk_ (fun hs_ => fun e_ => Nat.not_le.2 hs_ (by rw [e_]; exact GW354.out)) (fun hn_ => (Kd.freshB (g := gb354) (o := .cells #[.int .i64 a0_0, .int .i64 a0_1, .slice A0_2 l0_2.length c0_2, .int .i64 a0_3, .bool false, .bool true] 24 (0, 0)) (by (with_reducible repeat apply pK); exact BK354.out) k_ hn_)))) (below_size bl_)); have n1_ := Aside0.mk (Kd.V_lower (Kd.V_mono (ok' := fun k_ => k_ ≠ gb354) ho1 (fun k_ hk_ => Or.elim hk_ (fun hs_ => fun e_ => Nat.not_le.2 hs_ (by rw [e_]; exact GW354.out)) (fun hn_ => (Kd.freshB (g := gb354) (o := .cells #[.int .i64 a0_0, .int .i64 a0_1, .slice A0_2 l0_2.length c0_2, .int .i64 a0_3, .bool false, .bool true] 24 (0, 0)) (by (with_reducible repeat apply pK); exact BK354.out) k_ hn_)))) (below_size bl_)); have n2_ := Aside0.mk (blk_below (g := gb354) (o := .cells #[.int .i64 a0_0, .int .i64 a0_1, .slice A0_2 l0_2.length c0_2, .int .i64 a0_3, .bool false, .bool true] 24 (0, 0)) (by (with_reducible repeat apply pK); exact BK354.out) hb); have n3_ := Aside0.mk (below_step bl_ hb); clear BK354; clear HB; have HO362 := n0_; have HO369 := n1_; have BK354 := n2_; have HB := n3_; clear n0_ n1_ n2_ n3_; (try clear hb); (try clear hb2); (try clear hk); (try clear hi); (try clear ho0); (try clear ho1); (try simp only [errW_none, errW_some])) | ((with_reducible refine gate_dst (N := 5) rfl ?_); (try (refine gate_guard (by rfl) ?_; dsimp only)); refine box_event ?hg (N := 5) ?hd (cs := #[.int .i64 0, .int .i64 0, .slice none 0 0, .int .i64 0, .bool false, .bool false]) (t := 24) ?hr ?_; (case hd => rfl); (case hg => rfl); (case hr => first | (go_simp; done) | (go_simp; rfl)); intro gb370 hg w75 hbox hb; have n0_ := Aside0.mk (Kd.V_below (Kd.V_elderB (by (with_reducible repeat apply pV); exact HO362.out) gb370 (Nat.le_of_eq hg.symm)) hb); have n1_ := Aside0.mk (Kd.V_below (Kd.V_elderB (by (with_reducible repeat apply pV); exact HO369.out) gb370 (Nat.le_of_eq hg.symm)) hb); have n2_ := Aside0.mk (blk_below (g := gb354) (o := .cells #[.int .i64 a0_0, .int .i64 a0_1, .slice A0_2 l0_2.length c0_2, .int .i64 a0_3, .bool false, .bool true] 24 (0, 0)) (by (with_reducible repeat apply pK); exact BK354.out) hb); have n3_ := Aside0.mk (below_step bl_ hb); have n4_ := Aside0.mk (hbox); have n5_ := Aside0.mk ((le_new hg (below_size bl_) : w.heap.size ≤ gb370)); have n6_ := Aside0.mk ((le_new hg (below_size bl_) : w.heap.size ≤ gb370)); have n7_ := Aside0.mk ((by rw [hg]; exact Nat.ne_of_lt (blk_lt (g := gb354) (o := .cells #[.int .i64 a0_0, .int .i64 a0_1, .slice A0_2 l0_2.length c0_2, .int .i64 a0_3, .bool false, .bool true] 24 (0, 0)) (by (with_reducible repeat apply pK); exact BK354.out)) : gb354 ≠ gb370)); have n8_ := Aside0.mk ((by rw [hg]; exact Nat.ne_of_gt (blk_lt (g := gb354) (o := .cells #[.int .i64 a0_0, .int .i64 a0_1, .slice A0_2 l0_2.length c0_2, .int .i64 a0_3, .bool false, .bool true] 24 (0, 0)) (by (with_reducible repeat apply pK); exact BK354.out)) : gb370 ≠ gb354)); clear HO362; clear HO369; clear BK354; clear HB; have HO362 := n0_; have HO369 := n1_; have BK354 := n2_; have HB := n3_; have BK370 := n4_; have GW370 := n5_; have GE370 := n6_; have NB354_370 := n7_; have NB370_354 := n8_; clear n0_ n1_ n2_ n3_ n4_ n5_ n6_ n7_ n8_; clear hb hbox hg; have hnb76 := NB370_354.out; have hnc76 := NB354_370.out; obtain ⟨hcz77_0, hcz77_1, hcz77_2, hcz77_3, hcz77_4, hcz77_5, hfz77_0, hfz77_1, hfz77_2, hfz77_3, hfz77_4, hfz77_5⟩ := cells6 (show w75.heap[gb370]? = some (.cells #[.int .i64 0, .int .i64 0, .slice none 0 0, .int .i64 0, .bool false, .bool false] _ (0, 0)) from BK370.out); obtain ⟨Ao78, co78, eo78⟩ := Kd.V_slice HO362.out; subst eo78)); try go_wp2_with (first | ((with_reducible refine gate_dst (N := 2) rfl ?_); (try (refine gate_guard (by rfl) ?_; dsimp only)); refine box_event ?hg (N := 2) ?hd (cs := #[.int .i64 a0_0, .int .i64 a0_1, .slice A0_2 l0_2.length c0_2, .int .i64 a0_3, .bool a0_4, .bool a0_5]) (t := 24) ?hr ?_; (case hd => rfl); (case hg => rfl); (case hr => first | (go_simp; done) | (go_simp; rfl)); intro gb354 hg w65 hbox hb; have n0_ := Aside0.mk (below_step bl_ hb); have n1_ := Aside0.mk (hbox); have n2_ := Aside0.mk ((le_new hg (below_size bl_) : w.heap.size ≤ gb354)); have n3_ := Aside0.mk ((le_new hg (below_size bl_) : w.heap.size ≤ gb354)); clear HB; have HB := n0_; have BK354 := n1_; have GW354 := n2_; have GE354 := n3_; clear n0_ n1_ n2_ n3_; clear hb hbox hg) | (go_at_call 30; (with_reducible refine (shutterlaw14_awake.calls k  true _ ?sideG A3.out).mono ?_); (case sideG => exact laidG_below HG.out bl_ rfl); rintro e w66 ⟨rfl, hb⟩; have n0_ := Aside0.mk (blk_below (g := gb354) (o := .cells #[.int .i64 a0_0, .int .i64 a0_1, .slice A0_2 l0_2.length c0_2, .int .i64 a0_3, .bool a0_4, .bool a0_5] 24 (0, 0)) (by (with_reducible repeat apply pK); exact BK354.out) hb); have n1_ := Aside0.mk (below_step bl_ hb); clear BK354; clear HB; have BK354 := n0_; have HB := n1_; clear n0_ n1_; (try clear hb); (try clear hb2); (try clear hk); (try clear hi); obtain ⟨hcz67_0, hcz67_1, hcz67_2, hcz67_3, hcz67_4, hcz67_5, hfz67_0, hfz67_1, hfz67_2, hfz67_3, hfz67_4, hfz67_5⟩ := cells6 (show w66.heap[gb354]? = some (.cells #[.int .i64 a0_0, .int .i64 a0_1, .slice A0_2 l0_2.length c0_2, .int .i64 a0_3, .bool a0_4, .bool a0_5] _ (0, 0)) from BK354.out)) | (go_at_call 18; (with_reducible refine (shutterref10_Few.calls k a0_0 a0_1 _ _ l0_2 a0_3 a0_4 a0_5 true _ ?side1 ?side2 A5.out).mono ?_); (case side1 => repeat (first | exact (Kd.C_below HR0_2.out HB.out) | (with_reducible apply pC))); (case side2 => exact HC0_2.out); rintro e w68 ⟨rfl, hb⟩; have n0_ := Aside0.mk (blk_below (g := gb354) (o := .cells #[.int .i64 a0_0, .int .i64 a0_1, .slice A0_2 l0_2.length c0_2, .int .i64 a0_3, .bool a0_4, .bool a0_5] 24 (0, 0)) (by (with_reducible repeat apply pK); exact BK354.out) hb); have n1_ := Aside0.mk (below_step bl_ hb); clear BK354; clear HB; have BK354 := n0_; have HB := n1_; clear n0_ n1_; (try clear hb); (try clear hb2); (try clear hk); (try clear hi); obtain ⟨hcz69_0, hcz69_1, hcz69_2, hcz69_3, hcz69_4, hcz69_5, hfz69_0, hfz69_1, hfz69_2, hfz69_3, hfz69_4, hfz69_5⟩ := cells6 (show w68.heap[gb354]? = some (.cells #[.int .i64 a0_0, .int .i64 a0_1, .slice A0_2 l0_2.length c0_2, .int .i64 a0_3, .bool a0_4, .bool a0_5] _ (0, 0)) from BK354.out)) | ((with_reducible refine gate_store (t := 4) (p := 21) rfl ?_); (try (rw [drewN_self w68]; generalize hq_ : World.drewN w68 _ = w68; have n0_ := Aside0.mk (blk_at hq_ BK354.out); have n1_ := Aside0.mk (below_at hq_ HB.out); clear hq_ BK354 HB; have BK354 := n0_; have HB := n1_; clear n0_ n1_)); refine store_event (t := 4) (p := 21) (v := ?vo_w70) (w1 := (w68.setCell ⟨gb354, 5, none⟩ (.bool true))) ?hg ?ho ?hn ?hr ?_; (case ho => rfl); (case hg => rfl); (case hn => rfl); (case hr => first | (go_simp; done) | (go_simp; rfl)); intro w70 hw; have n0_ : Aside0 (w70.heap[gb354]? = some (.cells #[.int .i64 a0_0, .int .i64 a0_1, .slice A0_2 l0_2.length c0_2, .int .i64 a0_3, .bool a0_4, .bool true] 24 (0, 0))) := ⟨(by rw [hw]; exact (by (with_reducible repeat apply pK); refine blk_put (cs := #[.int .i64 a0_0, .int .i64 a0_1, .slice A0_2 l0_2.length c0_2, .int .i64 a0_3, .bool a0_4, .bool a0_5]) ?_ 5 _ rfl; (with_reducible repeat apply pK); exact BK354.out))⟩; have n1_ : Aside0 (Below w.heap.size w w70) := ⟨(by rw [hw]; exact bl_)⟩; clear hw; clear BK354; clear HB; have BK354 := n0_; have HB := n1_; clear n0_ n1_; obtain ⟨hcz71_0, hcz71_1, hcz71_2, hcz71_3, hcz71_4, hcz71_5, hfz71_0, hfz71_1, hfz71_2, hfz71_3, hfz71_4, hfz71_5⟩ := cells6 (show w70.heap[gb354]? = some (.cells #[.int .i64 a0_0, .int .i64 a0_1, .slice A0_2 l0_2.length c0_2, .int .i64 a0_3, .bool a0_4, .bool true] _ (0, 0)) from BK354.out)) | ((with_reducible refine gate_store (t := 4) (p := 22) rfl ?_); (try (rw [drewN_self w70]; generalize hq_ : World.drewN w70 _ = w70; have n0_ := Aside0.mk (blk_at hq_ BK354.out); have n1_ := Aside0.mk (below_at hq_ HB.out); clear hq_ BK354 HB; have BK354 := n0_; have HB := n1_; clear n0_ n1_)); refine store_event (t := 4) (p := 22) (v := ?vo_w72) (w1 := (w70.setCell ⟨gb354, 4, none⟩ (.bool false))) ?hg ?ho ?hn ?hr ?_; (case ho => rfl); (case hg => rfl); (case hn => rfl); (case hr => first | (go_simp; done) | (go_simp; rfl)); intro w72 hw; have n0_ : Aside0 (w72.heap[gb354]? = some (.cells #[.int .i64 a0_0, .int .i64 a0_1, .slice A0_2 l0_2.length c0_2, .int .i64 a0_3, .bool false, .bool true] 24 (0, 0))) := ⟨(by rw [hw]; exact (by (with_reducible repeat apply pK); refine blk_put (cs := #[.int .i64 a0_0, .int .i64 a0_1, .slice A0_2 l0_2.length c0_2, .int .i64 a0_3, .bool a0_4, .bool true]) ?_ 4 _ rfl; (with_reducible repeat apply pK); exact BK354.out))⟩; have n1_ : Aside0 (Below w.heap.size w w72) := ⟨(by rw [hw]; exact bl_)⟩; clear hw; clear BK354; clear HB; have BK354 := n0_; have HB := n1_; clear n0_ n1_; obtain ⟨hcz73_0, hcz73_1, hcz73_2, hcz73_3, hcz73_4, hcz73_5, hfz73_0, hfz73_1, hfz73_2, hfz73_3, hfz73_4, hfz73_5⟩ := cells6 (show w72.heap[gb354]? = some (.cells #[.int .i64 a0_0, .int .i64 a0_1, .slice A0_2 l0_2.length c0_2, .int .i64 a0_3, .bool false, .bool true] _ (0, 0)) from BK354.out)) | (go_at_call 31; (with_reducible refine (edit_Type.calls k a0_0 a0_1 (fun k_ => k_ < w.heap.size) _ _ l0_2 a0_3 false true a1 t358 t359 t360 t363 t364 t365 (some q371) t367 _ ?side1 A7.out).mono ?_); (case side1 => exact Kd.V_mk HC0_2.out (Kd.F_below (Kd.C_F k35_heap HR0_2.out) bl_)); rintro e w74 ⟨v361, v368, rfl, ho0, ho1, hb⟩; have n0_ := Aside0.mk (Kd.V_lower (Kd.V_mono (ok' := fun k_ => k_ ≠ gb354) ho0 (fun k_ hk_ => Or.elim hk_ (fun hs_ => fun e_ => Nat.not_le.2 hs_ (by rw [e_]; exact GW354.out)) (fun hn_ => (Kd.freshB (g := gb354) (o := .cells #[.int .i64 a0_0, .int .i64 a0_1, .slice A0_2 l0_2.length c0_2, .int .i64 a0_3, .bool false, .bool true] 24 (0, 0)) (by (with_reducible repeat apply pK); exact BK354.out) k_ hn_)))) (below_size bl_)); have n1_ := Aside0.mk (Kd.V_lower (Kd.V_mono (ok' := fun k_ => k_ ≠ gb354) ho1 (fun k_ hk_ => Or.elim hk_ (fun hs_ => fun e_ => Nat.not_le.2 hs_ (by rw [e_]; exact GW354.out)) (fun hn_ => (Kd.freshB (g := gb354) (o := .cells #[.int .i64 a0_0, .int .i64 a0_1, .slice A0_2 l0_2.length c0_2, .int .i64 a0_3, .bool false, .bool true] 24 (0, 0)) (by (with_reducible repeat apply pK); exact BK354.out) k_ hn_)))) (below_size bl_)); have n2_ := Aside0.mk (blk_below (g := gb354) (o := .cells #[.int .i64 a0_0, .int .i64 a0_1, .slice A0_2 l0_2.length c0_2, .int .i64 a0_3, .bool false, .bool true] 24 (0, 0)) (by (with_reducible repeat apply pK); exact BK354.out) hb); have n3_ := Aside0.mk (below_step bl_ hb); clear BK354; clear HB; have HO362 := n0_; have HO369 := n1_; have BK354 := n2_; have HB := n3_; clear n0_ n1_ n2_ n3_; (try clear hb); (try clear hb2); (try clear hk); (try clear hi); (try clear ho0); (try clear ho1); (try simp only [errW_none, errW_some])) | ((with_reducible refine gate_dst (N := 5) rfl ?_); (try (refine gate_guard (by rfl) ?_; dsimp only)); refine box_event ?hg (N := 5) ?hd (cs := #[.int .i64 0, .int .i64 0, .slice none 0 0, .int .i64 0, .bool false, .bool false]) (t := 24) ?hr ?_; (case hd => rfl); (case hg => rfl); (case hr => first | (go_simp; done) | (go_simp; rfl)); intro gb370 hg w75 hbox hb; have n0_ := Aside0.mk (Kd.V_below (Kd.V_elderB (by (with_reducible repeat apply pV); exact HO362.out) gb370 (Nat.le_of_eq hg.symm)) hb); have n1_ := Aside0.mk (Kd.V_below (Kd.V_elderB (by (with_reducible repeat apply pV); exact HO369.out) gb370 (Nat.le_of_eq hg.symm)) hb); have n2_ := Aside0.mk (blk_below (g := gb354) (o := .cells #[.int .i64 a0_0, .int .i64 a0_1, .slice A0_2 l0_2.length c0_2, .int .i64 a0_3, .bool false, .bool true] 24 (0, 0)) (by (with_reducible repeat apply pK); exact BK354.out) hb); have n3_ := Aside0.mk (below_step bl_ hb); have n4_ := Aside0.mk (hbox); have n5_ := Aside0.mk ((le_new hg (below_size bl_) : w.heap.size ≤ gb370)); have n6_ := Aside0.mk ((le_new hg (below_size bl_) : w.heap.size ≤ gb370)); have n7_ := Aside0.mk ((by rw [hg]; exact Nat.ne_of_lt (blk_lt (g := gb354) (o := .cells #[.int .i64 a0_0, .int .i64 a0_1, .slice A0_2 l0_2.length c0_2, .int .i64 a0_3, .bool false, .bool true] 24 (0, 0)) (by (with_reducible repeat apply pK); exact BK354.out)) : gb354 ≠ gb370)); have n8_ := Aside0.mk ((by rw [hg]; exact Nat.ne_of_gt (blk_lt (g := gb354) (o := .cells #[.int .i64 a0_0, .int .i64 a0_1, .slice A0_2 l0_2.length c0_2, .int .i64 a0_3, .bool false, .bool true] 24 (0, 0)) (by (with_reducible repeat apply pK); exact BK354.out)) : gb370 ≠ gb354)); clear HO362; clear HO369; clear BK354; clear HB; have HO362 := n0_; have HO369 := n1_; have BK354 := n2_; have HB := n3_; have BK370 := n4_; have GW370 := n5_; have GE370 := n6_; have NB354_370 := n7_; have NB370_354 := n8_; clear n0_ n1_ n2_ n3_ n4_ n5_ n6_ n7_ n8_; clear hb hbox hg; have hnb76 := NB370_354.out; have hnc76 := NB354_370.out; obtain ⟨hcz77_0, hcz77_1, hcz77_2, hcz77_3, hcz77_4, hcz77_5, hfz77_0, hfz77_1, hfz77_2, hfz77_3, hfz77_4, hfz77_5⟩ := cells6 (show w75.heap[gb370]? = some (.cells #[.int .i64 0, .int .i64 0, .slice none 0 0, .int .i64 0, .bool false, .bool false] _ (0, 0)) from BK370.out); obtain ⟨Ao78, co78, eo78⟩ := Kd.V_slice HO362.out; subst eo78)))
    go_ret
    exact ⟨by first | rfl | (simp [errW_none, errW_some] <;> rfl) | (simp [*, errW_none, errW_some] <;> rfl), bl_⟩
  ·replace c6 := Bool.eq_false_iff.mpr c6
   subst c6
   have H1 : ((shutterlaw14_awake.f k).bind fun t357 => (some t357)) = some r := by rw [if_neg (show ¬ (false = true) by decide)] at H; exact H
   clear H
   have H := H1
   clear H1
   replace H := Option.bind_eq_some_iff.mp H
   obtain ⟨t357, A790, H⟩ := H
   replace H : (some t357) = some r := H
   have A79 := Aside0.mk A790
   clear A790
   obtain rfl := Option.some.inj H
   go_enter Tryd.func7, Tryd.ntmps7
   go_wp2_with (first | ((with_reducible refine gate_dst (N := 2) rfl ?_); (try (refine gate_guard (by rfl) ?_; dsimp only)); refine box_event ?hg (N := 2) ?hd (cs := #[.int .i64 a0_0, .int .i64 a0_1, .slice A0_2 l0_2.length c0_2, .int .i64 a0_3, .bool a0_4, .bool a0_5]) (t := 24) ?hr ?_; (case hd => rfl); (case hg => rfl); (case hr => first | (go_simp; done) | (go_simp; rfl)); intro gb354 hg w80 hbox hb; have n0_ := Aside0.mk (below_step bl_ hb); have n1_ := Aside0.mk (hbox); have n2_ := Aside0.mk ((le_new hg (below_size bl_) : w.heap.size ≤ gb354)); have n3_ := Aside0.mk ((le_new hg (below_size bl_) : w.heap.size ≤ gb354)); clear HB; have HB := n0_; have BK354 := n1_; have GW354 := n2_; have GE354 := n3_; clear n0_ n1_ n2_ n3_; clear hb hbox hg) | (go_at_call 30; (with_reducible refine (shutterlaw14_awake.calls k  true _ ?sideG A3.out).mono ?_); (case sideG => exact laidG_below HG.out bl_ rfl); rintro e w81 ⟨rfl, hb⟩; have n0_ := Aside0.mk (blk_below (g := gb354) (o := .cells #[.int .i64 a0_0, .int .i64 a0_1, .slice A0_2 l0_2.length c0_2, .int .i64 a0_3, .bool a0_4, .bool a0_5] 24 (0, 0)) (by (with_reducible repeat apply pK); exact BK354.out) hb); have n1_ := Aside0.mk (below_step bl_ hb); clear BK354; clear HB; have BK354 := n0_; have HB := n1_; clear n0_ n1_; (try clear hb); (try clear hb2); (try clear hk); (try clear hi); obtain ⟨hcz82_0, hcz82_1, hcz82_2, hcz82_3, hcz82_4, hcz82_5, hfz82_0, hfz82_1, hfz82_2, hfz82_3, hfz82_4, hfz82_5⟩ := cells6 (show w81.heap[gb354]? = some (.cells #[.int .i64 a0_0, .int .i64 a0_1, .slice A0_2 l0_2.length c0_2, .int .i64 a0_3, .bool a0_4, .bool a0_5] _ (0, 0)) from BK354.out)) | (go_at_call 18; (with_reducible refine (shutterref10_Few.calls k a0_0 a0_1 _ _ l0_2 a0_3 a0_4 a0_5 false _ ?side1 ?side2 A5.out).mono ?_); (case side1 => repeat (first | exact (Kd.C_below HR0_2.out HB.out) | (with_reducible apply pC))); (case side2 => exact HC0_2.out); rintro e w83 ⟨rfl, hb⟩; have n0_ := Aside0.mk (blk_below (g := gb354) (o := .cells #[.int .i64 a0_0, .int .i64 a0_1, .slice A0_2 l0_2.length c0_2, .int .i64 a0_3, .bool a0_4, .bool a0_5] 24 (0, 0)) (by (with_reducible repeat apply pK); exact BK354.out) hb); have n1_ := Aside0.mk (below_step bl_ hb); clear BK354; clear HB; have BK354 := n0_; have HB := n1_; clear n0_ n1_; (try clear hb); (try clear hb2); (try clear hk); (try clear hi)) | (go_at_call 30; (with_reducible refine (shutterlaw14_awake.calls k  t357 _ ?sideG A79.out).mono ?_); (case sideG => exact laidG_below HG.out bl_ rfl); rintro e w84 ⟨rfl, hb⟩; have n0_ := Aside0.mk (blk_below (g := gb354) (o := .cells #[.int .i64 a0_0, .int .i64 a0_1, .slice A0_2 l0_2.length c0_2, .int .i64 a0_3, .bool a0_4, .bool a0_5] 24 (0, 0)) (by (with_reducible repeat apply pK); exact BK354.out) hb); have n1_ := Aside0.mk (below_step bl_ hb); clear BK354; clear HB; have BK354 := n0_; have HB := n1_; clear n0_ n1_; (try clear hb); (try clear hb2); (try clear hk); (try clear hi)))
   repeat (go_quiet (first | ((with_reducible refine gate_dst (N := 2) rfl ?_); (try (refine gate_guard (by rfl) ?_; dsimp only)); refine box_event ?hg (N := 2) ?hd (cs := #[.int .i64 a0_0, .int .i64 a0_1, .slice A0_2 l0_2.length c0_2, .int .i64 a0_3, .bool a0_4, .bool a0_5]) (t := 24) ?hr ?_; (case hd => rfl); (case hg => rfl); (case hr => first | (go_simp; done) | (go_simp; rfl)); intro gb354 hg w80 hbox hb; have n0_ := Aside0.mk (below_step bl_ hb); have n1_ := Aside0.mk (hbox); have n2_ := Aside0.mk ((le_new hg (below_size bl_) : w.heap.size ≤ gb354)); have n3_ := Aside0.mk ((le_new hg (below_size bl_) : w.heap.size ≤ gb354)); clear HB; have HB := n0_; have BK354 := n1_; have GW354 := n2_; have GE354 := n3_; clear n0_ n1_ n2_ n3_; clear hb hbox hg) | (go_at_call 30; (with_reducible refine (shutterlaw14_awake.calls k  true _ ?sideG A3.out).mono ?_); (case sideG => exact laidG_below HG.out bl_ rfl); rintro e w81 ⟨rfl, hb⟩; have n0_ := Aside0.mk (blk_below (g := gb354) (o := .cells #[.int .i64 a0_0, .int .i64 a0_1, .slice A0_2 l0_2.length c0_2, .int .i64 a0_3, .bool a0_4, .bool a0_5] 24 (0, 0)) (by (with_reducible repeat apply pK); exact BK354.out) hb); have n1_ := Aside0.mk (below_step bl_ hb); clear BK354; clear HB; have BK354 := n0_; have HB := n1_; clear n0_ n1_; (try clear hb); (try clear hb2); (try clear hk); (try clear hi); obtain ⟨hcz82_0, hcz82_1, hcz82_2, hcz82_3, hcz82_4, hcz82_5, hfz82_0, hfz82_1, hfz82_2, hfz82_3, hfz82_4, hfz82_5⟩ := cells6 (show w81.heap[gb354]? = some (.cells #[.int .i64 a0_0, .int .i64 a0_1, .slice A0_2 l0_2.length c0_2, .int .i64 a0_3, .bool a0_4, .bool a0_5] _ (0, 0)) from BK354.out)) | (go_at_call 18; (with_reducible refine (shutterref10_Few.calls k a0_0 a0_1 _ _ l0_2 a0_3 a0_4 a0_5 false _ ?side1 ?side2 A5.out).mono ?_); (case side1 => repeat (first | exact (Kd.C_below HR0_2.out HB.out) | (with_reducible apply pC))); (case side2 => exact HC0_2.out); rintro e w83 ⟨rfl, hb⟩; have n0_ := Aside0.mk (blk_below (g := gb354) (o := .cells #[.int .i64 a0_0, .int .i64 a0_1, .slice A0_2 l0_2.length c0_2, .int .i64 a0_3, .bool a0_4, .bool a0_5] 24 (0, 0)) (by (with_reducible repeat apply pK); exact BK354.out) hb); have n1_ := Aside0.mk (below_step bl_ hb); clear BK354; clear HB; have BK354 := n0_; have HB := n1_; clear n0_ n1_; (try clear hb); (try clear hb2); (try clear hk); (try clear hi)) | (go_at_call 30; (with_reducible refine (shutterlaw14_awake.calls k  t357 _ ?sideG A79.out).mono ?_); (case sideG => exact laidG_below HG.out bl_ rfl); rintro e w84 ⟨rfl, hb⟩; have n0_ := Aside0.mk (blk_below (g := gb354) (o := .cells #[.int .i64 a0_0, .int .i64 a0_1, .slice A0_2 l0_2.length c0_2, .int .i64 a0_3, .bool a0_4, .bool a0_5] 24 (0, 0)) (by (with_reducible repeat apply pK); exact BK354.out) hb); have n1_ := Aside0.mk (below_step bl_ hb); clear BK354; clear HB; have BK354 := n0_; have HB := n1_; clear n0_ n1_; (try clear hb); (try clear hb2); (try clear hk); (try clear hi))); try go_wp2_with (first | ((with_reducible refine gate_dst (N := 2) rfl ?_); (try (refine gate_guard (by rfl) ?_; dsimp only)); refine box_event ?hg (N := 2) ?hd (cs := #[.int .i64 a0_0, .int .i64 a0_1, .slice A0_2 l0_2.length c0_2, .int .i64 a0_3, .bool a0_4, .bool a0_5]) (t := 24) ?hr ?_; (case hd => rfl); (case hg => rfl); (case hr => first | (go_simp; done) | (go_simp; rfl)); intro gb354 hg w80 hbox hb; have n0_ := Aside0.mk (below_step bl_ hb); have n1_ := Aside0.mk (hbox); have n2_ := Aside0.mk ((le_new hg (below_size bl_) : w.heap.size ≤ gb354)); have n3_ := Aside0.mk ((le_new hg (below_size bl_) : w.heap.size ≤ gb354)); clear HB; have HB := n0_; have BK354 := n1_; have GW354 := n2_; have GE354 := n3_; clear n0_ n1_ n2_ n3_; clear hb hbox hg) | (go_at_call 30; (with_reducible refine (shutterlaw14_awake.calls k  true _ ?sideG A3.out).mono ?_); (case sideG => exact laidG_below HG.out bl_ rfl); rintro e w81 ⟨rfl, hb⟩; have n0_ := Aside0.mk (blk_below (g := gb354) (o := .cells #[.int .i64 a0_0, .int .i64 a0_1, .slice A0_2 l0_2.length c0_2, .int .i64 a0_3, .bool a0_4, .bool a0_5] 24 (0, 0)) (by (with_reducible repeat apply pK); exact BK354.out) hb); have n1_ := Aside0.mk (below_step bl_ hb); clear BK354; clear HB; have BK354 := n0_; have HB := n1_; clear n0_ n1_; (try clear hb); (try clear hb2); (try clear hk); (try clear hi); obtain ⟨hcz82_0, hcz82_1, hcz82_2, hcz82_3, hcz82_4, hcz82_5, hfz82_0, hfz82_1, hfz82_2, hfz82_3, hfz82_4, hfz82_5⟩ := cells6 (show w81.heap[gb354]? = some (.cells #[.int .i64 a0_0, .int .i64 a0_1, .slice A0_2 l0_2.length c0_2, .int .i64 a0_3, .bool a0_4, .bool a0_5] _ (0, 0)) from BK354.out)) | (go_at_call 18; (with_reducible refine (shutterref10_Few.calls k a0_0 a0_1 _ _ l0_2 a0_3 a0_4 a0_5 false _ ?side1 ?side2 A5.out).mono ?_); (case side1 => repeat (first | exact (Kd.C_below HR0_2.out HB.out) | (with_reducible apply pC))); (case side2 => exact HC0_2.out); rintro e w83 ⟨rfl, hb⟩; have n0_ := Aside0.mk (blk_below (g := gb354) (o := .cells #[.int .i64 a0_0, .int .i64 a0_1, .slice A0_2 l0_2.length c0_2, .int .i64 a0_3, .bool a0_4, .bool a0_5] 24 (0, 0)) (by (with_reducible repeat apply pK); exact BK354.out) hb); have n1_ := Aside0.mk (below_step bl_ hb); clear BK354; clear HB; have BK354 := n0_; have HB := n1_; clear n0_ n1_; (try clear hb); (try clear hb2); (try clear hk); (try clear hi)) | (go_at_call 30; (with_reducible refine (shutterlaw14_awake.calls k  t357 _ ?sideG A79.out).mono ?_); (case sideG => exact laidG_below HG.out bl_ rfl); rintro e w84 ⟨rfl, hb⟩; have n0_ := Aside0.mk (blk_below (g := gb354) (o := .cells #[.int .i64 a0_0, .int .i64 a0_1, .slice A0_2 l0_2.length c0_2, .int .i64 a0_3, .bool a0_4, .bool a0_5] 24 (0, 0)) (by (with_reducible repeat apply pK); exact BK354.out) hb); have n1_ := Aside0.mk (below_step bl_ hb); clear BK354; clear HB; have BK354 := n0_; have HB := n1_; clear n0_ n1_; (try clear hb); (try clear hb2); (try clear hk); (try clear hi))))
   go_ret
   have e_ : t357 = true := Option.some.inj (A79.out.symm.trans A3.out)
   exact ⟨by first | rfl | (simp [errW_none, errW_some] <;> rfl) | (simp [*, errW_none, errW_some] <;> rfl), bl_⟩
 ·replace c4 := Bool.eq_false_iff.mpr c4
  subst c4
  have H1 : (none) = some r := by rw [if_neg (show ¬ (false = true) by decide)] at H; exact H
  clear H
  have H := H1
  clear H1
  exact absurd H (by simp)

end Go.Proofs.YtggecanpjkpkiaaDoor.P
