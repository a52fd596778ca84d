/- The functions of the seat's laws as plain Lean functions, and that Go's code comes to just their answers. Written by pp.py (wip/tools), a program of this session, on the kit's print. -/
import Derived.Test.YtapcfcagjlmgjaaPx0
import Derived.Test.YtapcfcagjlmgjaaPx3
import Derived.Test.YtapcfcagjlmgjaaPx4
import Derived.Test.YtapcfcagjlmgjaaPx5
import Derived.Test.YtapcfcagjlmgjaaPx6
namespace Go.Proofs.Ytapcfcagjlmgjaa.P
open Go.RowKit Go.Proofs.YtapcfcagjlmgjaaW.PrintWords Go.Proofs.YtapcfcagjlmgjaaW.PrintLast Go.Proofs.YtapcfcagjlmgjaaW.PrintMore
attribute [local go_sem] max2_int min2_int max_two min_two max_three min_three max_four min_four   -- for this text's walks alone
attribute [local go_sem] Instr.field asAgg
set_option linter.unusedVariables false
set_option linter.unusedSimpArgs false

/-! ### shutterlaw11_FieldTabs: function 6 -/
def shutterlaw11_FieldTabs.j0 : Nat → Int → Int → Bool → Int → Int → List (S39) → Int → Bool → Bool → Option (Bool)
  | 0, _, _, _, _, _, _, _, _, _ => none
  | k + 1, x6, x7, x36, x273000, x273001, x273002, x273003, x273004, x273005 => if x36 = true then (if x6 < 0 then (some (decide (x7 < 0))) else (none)) else ((field_Cells.f x273000 x273001 x273002 x273003 x273004 x273005 x6).bind fun t278 => ((field_Cells.f x273000 x273001 x273002 x273003 x273004 x273005 x7).bind fun t281 => ((field_Open.f x273000 x273001 x273002 x273003 x273004 x273005 x6).bind fun t284 => (if t284 = true then ((field_Open.f x273000 x273001 x273002 x273003 x273004 x273005 x7).bind fun t285 => (if t285 = true then (if (t278.length : Int) = 0 then (none) else (if (t281.length : Int) = 0 then (none) else (if 0 < (t278.length : Int) then (if (rd t278 0) = x6 then (if 0 < (t281.length : Int) then (if (rd t281 0) = x7 then ((field_Next.f x273000 x273001 x273002 x273003 x273004 x273005 x6).bind fun t288 => (if t288 ≥ 0 then ((field_Prev.f x273000 x273001 x273002 x273003 x273004 x273005 t288).bind fun t289 => (some (t289 == x6))) else (none))) else (none)) else (none)) else (none)) else (none)))) else (none))) else (none)))))
def shutterlaw11_FieldTabs.f (k : Nat) (a0_0 : Int) (a0_1 : Int) (l0_2 : List (S39)) (a0_3 : Int) (a0_4 : Bool) (a0_5 : Bool) (a1 : Int) : Option (Bool) := (shutterlaw11_awake.f k).bind fun t273 => (if t273 = true then ((shutterref10_Few.f k a0_0 a0_1 l0_2 a0_3 a0_4 a0_5).bind fun t274 => (if t274 = true then (if (l0_2.length : Int) = 0 then (none) else ((field_Next.f a0_0 a0_1 l0_2 a0_3 a0_4 a0_5 (Int.tmod (wrap64 (a1)) (l0_2.length : Int))).bind fun t276 => ((field_Prev.f a0_0 a0_1 l0_2 a0_3 a0_4 a0_5 (Int.tmod (wrap64 (a1)) (l0_2.length : Int))).bind fun t277 => (if t276 < 0 then (shutterlaw11_FieldTabs.j0 k t276 t277 true a0_0 a0_1 l0_2 a0_3 a0_4 a0_5) else (shutterlaw11_FieldTabs.j0 k t276 t277 (decide (t277 < 0)) a0_0 a0_1 l0_2 a0_3 a0_4 a0_5))))) else ((shutterlaw11_awake.f k).bind fun t275 => (some t275)))) else (none))
theorem shutterlaw11_FieldTabs.mono_l : ∀ k, (∀ y0 y1 y2 y3 y4 y5 y6 y7 y8, LeO (shutterlaw11_FieldTabs.j0 k y0 y1 y2 y3 y4 y5 y6 y7 y8) (shutterlaw11_FieldTabs.j0 (k + 1) y0 y1 y2 y3 y4 y5 y6 y7 y8))
  | 0 => fun _ _ _ _ _ _ _ _ _ r h => by simp [shutterlaw11_FieldTabs.j0] at h
  | k + 1 => by
    have ih0 := shutterlaw11_FieldTabs.mono_l k
    · intro y0 y1 y2 y3 y4 y5 y6 y7 y8
      unfold shutterlaw11_FieldTabs.j0
      repeat' first
      | (with_reducible exact ih0 _ _ _ _ _ _ _ _ _)
      | (with_reducible exact shutterlaw11_awake.mono _)
      | (with_reducible exact shutterref10_Few.mono _ _ _ _ _ _ _)
      | (with_reducible exact LeO.refl _)
      | (with_reducible exact LeO.none _)
      | (with_reducible refine LeO.ite ?_ ?_)
      | (with_reducible refine LeO.bind ?_ (fun _ => ?_))
      | exact ih0 _ _ _ _ _ _ _ _ _
      | exact shutterlaw11_awake.mono _
      | exact shutterref10_Few.mono _ _ _ _ _ _ _
      | exact LeO.none _
      | refine LeO.ite ?_ ?_
      | refine LeO.bind ?_ (fun _ => ?_)
theorem shutterlaw11_FieldTabs.mono : ∀ a0 a1 a2 a3 a4 a5 a6 k, LeO (shutterlaw11_FieldTabs.f k a0 a1 a2 a3 a4 a5 a6) (shutterlaw11_FieldTabs.f (k + 1) a0 a1 a2 a3 a4 a5 a6) := by
  intro a0 a1 a2 a3 a4 a5 a6 k
  have ih0 := shutterlaw11_FieldTabs.mono_l k
  unfold shutterlaw11_FieldTabs.f
  repeat' first
      | (with_reducible exact ih0 _ _ _ _ _ _ _ _ _)
      | (with_reducible exact shutterlaw11_awake.mono _)
      | (with_reducible exact shutterref10_Few.mono _ _ _ _ _ _ _)
      | (with_reducible exact LeO.refl _)
      | (with_reducible exact LeO.none _)
      | (with_reducible refine LeO.ite ?_ ?_)
      | (with_reducible refine LeO.bind ?_ (fun _ => ?_))
      | exact ih0 _ _ _ _ _ _ _ _ _
      | exact shutterlaw11_awake.mono _
      | exact shutterref10_Few.mono _ _ _ _ _ _ _
      | exact LeO.none _
      | refine LeO.ite ?_ ?_
      | refine LeO.bind ?_ (fun _ => ?_)
set_option maxHeartbeats 8000000 in
set_option maxRecDepth 100000 in
theorem shutterlaw11_FieldTabs.calls (k : Nat) (a0_0 : Int) (a0_1 : Int) (A0_2 : Option Addr) (c0_2 : Nat) (l0_2 : List (S39)) (a0_3 : Int) (a0_4 : Bool) (a0_5 : Bool) (a1 : Int) (r : Bool) (w : World) (hr0_2 : Kd.C k39 w A0_2 l0_2.length l0_2) (hc0_2 : l0_2.length ≤ c0_2) (h : shutterlaw11_FieldTabs.f k a0_0 a0_1 l0_2 a0_3 a0_4 a0_5 a1 = some r) :
    Calls Try.prog 6 #[.agg #[.int .i64 a0_0, .int .i64 a0_1, .slice A0_2 l0_2.length c0_2, .int .i64 a0_3, .bool a0_4, .bool a0_5], .int .u16 a1] w fun e w' => e = .returned (.bool r) ∧ Below w.heap.size w w' := by
  have hu24 := Try.underlying24
  have HR0_2 := Aside0.mk hr0_2
  have HC0_2 := Aside0.mk hc0_2
  clear hr0_2 hc0_2
  have HB := Aside0.mk (Below.refl w.heap.size w)
  have H : ((shutterlaw11_awake.f k).bind fun t273 => (if t273 = true then ((shutterref10_Few.f k a0_0 a0_1 l0_2 a0_3 a0_4 a0_5).bind fun t274 => (if t274 = true then (if (l0_2.length : Int) = 0 then (none) else ((field_Next.f a0_0 a0_1 l0_2 a0_3 a0_4 a0_5 (Int.tmod (wrap64 (a1)) (l0_2.length : Int))).bind fun t276 => ((field_Prev.f a0_0 a0_1 l0_2 a0_3 a0_4 a0_5 (Int.tmod (wrap64 (a1)) (l0_2.length : Int))).bind fun t277 => (if t276 < 0 then (shutterlaw11_FieldTabs.j0 k t276 t277 true a0_0 a0_1 l0_2 a0_3 a0_4 a0_5) else (shutterlaw11_FieldTabs.j0 k t276 t277 (decide (t277 < 0)) a0_0 a0_1 l0_2 a0_3 a0_4 a0_5))))) else ((shutterlaw11_awake.f k).bind fun t275 => (some t275)))) else (none))) = some r := h
  clear h
  replace H := Option.bind_eq_some_iff.mp H
  obtain ⟨t273, A30, H⟩ := H
  replace H : (if t273 = true then ((shutterref10_Few.f k a0_0 a0_1 l0_2 a0_3 a0_4 a0_5).bind fun t274 => (if t274 = true then (if (l0_2.length : Int) = 0 then (none) else ((field_Next.f a0_0 a0_1 l0_2 a0_3 a0_4 a0_5 (Int.tmod (wrap64 (a1)) (l0_2.length : Int))).bind fun t276 => ((field_Prev.f a0_0 a0_1 l0_2 a0_3 a0_4 a0_5 (Int.tmod (wrap64 (a1)) (l0_2.length : Int))).bind fun t277 => (if t276 < 0 then (shutterlaw11_FieldTabs.j0 k t276 t277 true a0_0 a0_1 l0_2 a0_3 a0_4 a0_5) else (shutterlaw11_FieldTabs.j0 k t276 t277 (decide (t277 < 0)) a0_0 a0_1 l0_2 a0_3 a0_4 a0_5))))) else ((shutterlaw11_awake.f k).bind fun t275 => (some t275)))) else (none)) = some r := H
  have A3 := Aside0.mk A30
  clear A30
  by_cases c4 : t273 = true
  · subst c4
    have H1 : ((shutterref10_Few.f k a0_0 a0_1 l0_2 a0_3 a0_4 a0_5).bind fun t274 => (if t274 = true then (if (l0_2.length : Int) = 0 then (none) else ((field_Next.f a0_0 a0_1 l0_2 a0_3 a0_4 a0_5 (Int.tmod (wrap64 (a1)) (l0_2.length : Int))).bind fun t276 => ((field_Prev.f a0_0 a0_1 l0_2 a0_3 a0_4 a0_5 (Int.tmod (wrap64 (a1)) (l0_2.length : Int))).bind fun t277 => (if t276 < 0 then (shutterlaw11_FieldTabs.j0 k t276 t277 true a0_0 a0_1 l0_2 a0_3 a0_4 a0_5) else (shutterlaw11_FieldTabs.j0 k t276 t277 (decide (t277 < 0)) a0_0 a0_1 l0_2 a0_3 a0_4 a0_5))))) else ((shutterlaw11_awake.f k).bind fun t275 => (some t275)))) = some r := by rw [if_pos rfl] at H; exact H
    clear H
    have H := H1
    clear H1
    replace H := Option.bind_eq_some_iff.mp H
    obtain ⟨t274, A50, H⟩ := H
    replace H : (if t274 = true then (if (l0_2.length : Int) = 0 then (none) else ((field_Next.f a0_0 a0_1 l0_2 a0_3 a0_4 a0_5 (Int.tmod (wrap64 (a1)) (l0_2.length : Int))).bind fun t276 => ((field_Prev.f a0_0 a0_1 l0_2 a0_3 a0_4 a0_5 (Int.tmod (wrap64 (a1)) (l0_2.length : Int))).bind fun t277 => (if t276 < 0 then (shutterlaw11_FieldTabs.j0 k t276 t277 true a0_0 a0_1 l0_2 a0_3 a0_4 a0_5) else (shutterlaw11_FieldTabs.j0 k t276 t277 (decide (t277 < 0)) a0_0 a0_1 l0_2 a0_3 a0_4 a0_5))))) else ((shutterlaw11_awake.f k).bind fun t275 => (some t275))) = some r := H
    have A5 := Aside0.mk A50
    clear A50
    by_cases c6 : t274 = true
    · subst c6
      have H1 : (if (l0_2.length : Int) = 0 then (none) else ((field_Next.f a0_0 a0_1 l0_2 a0_3 a0_4 a0_5 (Int.tmod (wrap64 (a1)) (l0_2.length : Int))).bind fun t276 => ((field_Prev.f a0_0 a0_1 l0_2 a0_3 a0_4 a0_5 (Int.tmod (wrap64 (a1)) (l0_2.length : Int))).bind fun t277 => (if t276 < 0 then (shutterlaw11_FieldTabs.j0 k t276 t277 true a0_0 a0_1 l0_2 a0_3 a0_4 a0_5) else (shutterlaw11_FieldTabs.j0 k t276 t277 (decide (t277 < 0)) a0_0 a0_1 l0_2 a0_3 a0_4 a0_5))))) = some r := by rw [if_pos rfl] at H; exact H
      clear H
      have H := H1
      clear H1
      by_cases c7 : (l0_2.length : Int) = 0
      · rw [if_pos c7] at H
        exact absurd H (by simp)
      · rw [if_neg c7] at H
        have c7b0 : ((l0_2.length : Int) == 0) = false := beq_eq_false_iff_ne.mpr c7
        have c7b1 : ((l0_2.length : Int) != 0) = true := bne_iff_ne.mpr c7
        have c7b2 : ¬ (l0_2 = []) := fun h_ => c7 (by rw [h_]; rfl)
        replace H := Option.bind_eq_some_iff.mp H
        obtain ⟨t276, A80, H⟩ := H
        replace H : ((field_Prev.f a0_0 a0_1 l0_2 a0_3 a0_4 a0_5 (Int.tmod (wrap64 (a1)) (l0_2.length : Int))).bind fun t277 => (if t276 < 0 then (shutterlaw11_FieldTabs.j0 k t276 t277 true a0_0 a0_1 l0_2 a0_3 a0_4 a0_5) else (shutterlaw11_FieldTabs.j0 k t276 t277 (decide (t277 < 0)) a0_0 a0_1 l0_2 a0_3 a0_4 a0_5))) = some r := H
        have A8 := Aside0.mk A80
        clear A80
        replace H := Option.bind_eq_some_iff.mp H
        obtain ⟨t277, A90, H⟩ := H
        replace H : (if t276 < 0 then (shutterlaw11_FieldTabs.j0 k t276 t277 true a0_0 a0_1 l0_2 a0_3 a0_4 a0_5) else (shutterlaw11_FieldTabs.j0 k t276 t277 (decide (t277 < 0)) a0_0 a0_1 l0_2 a0_3 a0_4 a0_5)) = some r := H
        have A9 := Aside0.mk A90
        clear A90
        have HC10 := Aside0.mk H
        clear H
        go_enter Try.func6, Try.ntmps6
        go_upto_region 6 with (first | ((with_reducible refine gate_dst (N := 2) rfl ?_); (try (refine gate_guard (by rfl) ?_; dsimp only)); refine box_event ?hg (N := 2) ?hd (cs := #[.int .i64 a0_0, .int .i64 a0_1, .slice A0_2 l0_2.length c0_2, .int .i64 a0_3, .bool a0_4, .bool a0_5]) (t := 24) ?hr ?_; (case hd => rfl); (case hg => rfl); (case hr => first | (go_simp; done) | (go_simp; rfl)); intro gb272 hg w11 hbox hb; have n0_ := Aside0.mk (below_step (by repeat (first | (with_reducible first | exact HB.out | apply below_alloc | apply pw_below_drewN | apply below_drew1) | exact HB.out)) hb); have n1_ := Aside0.mk (hbox); have n2_ := Aside0.mk ((by rw [hg]; exact (below_size (by repeat (first | (with_reducible first | exact HB.out | apply below_alloc | apply pw_below_drewN | apply below_drew1) | exact HB.out))) : w.heap.size ≤ gb272)); have n3_ := Aside0.mk ((by rw [hg]; exact (below_size (by repeat (first | (with_reducible first | exact HB.out | apply below_alloc | apply pw_below_drewN | apply below_drew1) | exact HB.out))) : w.heap.size ≤ gb272)); clear HB; have HB := n0_; have BK272 := n1_; have GW272 := n2_; have GE272 := n3_; clear n0_ n1_ n2_ n3_; clear hb hbox hg) | ((with_reducible refine gate_callee (f := 9) rfl ?_); refine goesL_ (some 11) rfl rfl Try.func9 (by kernel_rfl) rfl #[] rfl (by (try simp only [List.map_toArray, List.map_cons, List.map_nil]); first | done | rfl | (simp only [List.length_drop, List.length_take]; rfl)) ?_; (with_reducible refine (shutterlaw11_awake.calls k  true _ A3.out).mono ?_); rintro e w12 ⟨rfl, hb⟩; refine ⟨_, rfl, ?_⟩; have n0_ := Aside0.mk (blk_below (g := gb272) (o := .cells #[.int .i64 a0_0, .int .i64 a0_1, .slice A0_2 l0_2.length c0_2, .int .i64 a0_3, .bool a0_4, .bool a0_5] 24 (0, 0)) (by (with_reducible repeat (first | refine blk_drewN ?_ _ | refine blk_drew ?_ | refine blk_alloc ?_ _)); exact BK272.out) hb); have n1_ := Aside0.mk (below_step (by repeat (first | (with_reducible first | exact HB.out | apply below_alloc | apply pw_below_drewN | apply below_drew1 | refine below_set ?_ GE272.out) | exact HB.out)) hb); clear BK272; clear HB; have BK272 := n0_; have HB := n1_; clear n0_ n1_; (try clear hb); (try clear hb2); (try clear hk); (try clear hi); have hcz13_0 : w12.cell? ⟨gb272, 0, none⟩ = some (.int .i64 a0_0) := (blk_cell BK272.out 0).trans rfl; have hcz13_1 : w12.cell? ⟨gb272, 1, none⟩ = some (.int .i64 a0_1) := (blk_cell BK272.out 1).trans rfl; have hcz13_2 : w12.cell? ⟨gb272, 2, none⟩ = some (.slice A0_2 l0_2.length c0_2) := (blk_cell BK272.out 2).trans rfl; have hcz13_3 : w12.cell? ⟨gb272, 3, none⟩ = some (.int .i64 a0_3) := (blk_cell BK272.out 3).trans rfl; have hcz13_4 : w12.cell? ⟨gb272, 4, none⟩ = some (.bool a0_4) := (blk_cell BK272.out 4).trans rfl; have hcz13_5 : w12.cell? ⟨gb272, 5, none⟩ = some (.bool a0_5) := (blk_cell BK272.out 5).trans rfl; have hfz13_0 := blk_frozen BK272.out 0; have hfz13_1 := blk_frozen BK272.out 1; have hfz13_2 := blk_frozen BK272.out 2; have hfz13_3 := blk_frozen BK272.out 3; have hfz13_4 := blk_frozen BK272.out 4; have hfz13_5 := blk_frozen BK272.out 5) | (go_at_call 10; (with_reducible refine (shutterref10_Few.calls k a0_0 a0_1 _ _ l0_2 a0_3 a0_4 a0_5 true _ ?side1 ?side2 A5.out).mono ?_); (case side1 => repeat (first | exact (Kd.C_below HR0_2.out HB.out) | (with_reducible refine Kd.C_alloc ?_ _) | (with_reducible refine Kd.C_drewN ?_ _) | (with_reducible refine Kd.C_drew ?_))); (case side2 => exact HC0_2.out); rintro e w14 ⟨rfl, hb⟩; have n0_ := Aside0.mk (blk_below (g := gb272) (o := .cells #[.int .i64 a0_0, .int .i64 a0_1, .slice A0_2 l0_2.length c0_2, .int .i64 a0_3, .bool a0_4, .bool a0_5] 24 (0, 0)) (by (with_reducible repeat (first | refine blk_drewN ?_ _ | refine blk_drew ?_ | refine blk_alloc ?_ _)); exact BK272.out) hb); have n1_ := Aside0.mk (below_step (by repeat (first | (with_reducible first | exact HB.out | apply below_alloc | apply pw_below_drewN | apply below_drew1 | refine below_set ?_ GE272.out) | exact HB.out)) hb); clear BK272; clear HB; have BK272 := n0_; have HB := n1_; clear n0_ n1_; (try clear hb); (try clear hb2); (try clear hk); (try clear hi); have hcz15_0 : w14.cell? ⟨gb272, 0, none⟩ = some (.int .i64 a0_0) := (blk_cell BK272.out 0).trans rfl; have hcz15_1 : w14.cell? ⟨gb272, 1, none⟩ = some (.int .i64 a0_1) := (blk_cell BK272.out 1).trans rfl; have hcz15_2 : w14.cell? ⟨gb272, 2, none⟩ = some (.slice A0_2 l0_2.length c0_2) := (blk_cell BK272.out 2).trans rfl; have hcz15_3 : w14.cell? ⟨gb272, 3, none⟩ = some (.int .i64 a0_3) := (blk_cell BK272.out 3).trans rfl; have hcz15_4 : w14.cell? ⟨gb272, 4, none⟩ = some (.bool a0_4) := (blk_cell BK272.out 4).trans rfl; have hcz15_5 : w14.cell? ⟨gb272, 5, none⟩ = some (.bool a0_5) := (blk_cell BK272.out 5).trans rfl; have hfz15_0 := blk_frozen BK272.out 0; have hfz15_1 := blk_frozen BK272.out 1; have hfz15_2 := blk_frozen BK272.out 2; have hfz15_3 := blk_frozen BK272.out 3; have hfz15_4 := blk_frozen BK272.out 4; have hfz15_5 := blk_frozen BK272.out 5) | ((with_reducible refine gate_callee (f := 22) rfl ?_); refine goesL_ (some 27) rfl rfl Try.func22 (by kernel_rfl) rfl #[.agg #[.int .i64 a0_0, .int .i64 a0_1, .slice A0_2 l0_2.length c0_2, .int .i64 a0_3, .bool a0_4, .bool a0_5], .int .i64 (Int.tmod (wrap64 (a1)) (l0_2.length : Int))] rfl (by (try simp only [List.map_toArray, List.map_cons, List.map_nil]); first | done | rfl | (simp only [List.length_drop, List.length_take]; rfl)) ?_; (with_reducible refine (field_Next.calls a0_0 a0_1 _ _ l0_2 a0_3 a0_4 a0_5 (Int.tmod (wrap64 (a1)) (l0_2.length : Int)) t276 _ ?side1 ?side2 A8.out).mono ?_); (case side1 => repeat (first | exact (Kd.C_below HR0_2.out HB.out) | (with_reducible refine Kd.C_alloc ?_ _) | (with_reducible refine Kd.C_drewN ?_ _) | (with_reducible refine Kd.C_drew ?_))); (case side2 => exact HC0_2.out); rintro e w16 ⟨rfl, hb⟩; refine ⟨_, rfl, ?_⟩; have n0_ := Aside0.mk (blk_below (g := gb272) (o := .cells #[.int .i64 a0_0, .int .i64 a0_1, .slice A0_2 l0_2.length c0_2, .int .i64 a0_3, .bool a0_4, .bool a0_5] 24 (0, 0)) (by (with_reducible repeat (first | refine blk_drewN ?_ _ | refine blk_drew ?_ | refine blk_alloc ?_ _)); exact BK272.out) hb); have n1_ := Aside0.mk (below_step (by repeat (first | (with_reducible first | exact HB.out | apply below_alloc | apply pw_below_drewN | apply below_drew1 | refine below_set ?_ GE272.out) | exact HB.out)) hb); clear BK272; clear HB; have BK272 := n0_; have HB := n1_; clear n0_ n1_; (try clear hb); (try clear hb2); (try clear hk); (try clear hi); have hcz17_0 : w16.cell? ⟨gb272, 0, none⟩ = some (.int .i64 a0_0) := (blk_cell BK272.out 0).trans rfl; have hcz17_1 : w16.cell? ⟨gb272, 1, none⟩ = some (.int .i64 a0_1) := (blk_cell BK272.out 1).trans rfl; have hcz17_2 : w16.cell? ⟨gb272, 2, none⟩ = some (.slice A0_2 l0_2.length c0_2) := (blk_cell BK272.out 2).trans rfl; have hcz17_3 : w16.cell? ⟨gb272, 3, none⟩ = some (.int .i64 a0_3) := (blk_cell BK272.out 3).trans rfl; have hcz17_4 : w16.cell? ⟨gb272, 4, none⟩ = some (.bool a0_4) := (blk_cell BK272.out 4).trans rfl; have hcz17_5 : w16.cell? ⟨gb272, 5, none⟩ = some (.bool a0_5) := (blk_cell BK272.out 5).trans rfl; have hfz17_0 := blk_frozen BK272.out 0; have hfz17_1 := blk_frozen BK272.out 1; have hfz17_2 := blk_frozen BK272.out 2; have hfz17_3 := blk_frozen BK272.out 3; have hfz17_4 := blk_frozen BK272.out 4; have hfz17_5 := blk_frozen BK272.out 5) | ((with_reducible refine gate_callee (f := 24) rfl ?_); refine goesL_ (some 30) rfl rfl Try.func24 (by kernel_rfl) rfl #[.agg #[.int .i64 a0_0, .int .i64 a0_1, .slice A0_2 l0_2.length c0_2, .int .i64 a0_3, .bool a0_4, .bool a0_5], .int .i64 (Int.tmod (wrap64 (a1)) (l0_2.length : Int))] rfl (by (try simp only [List.map_toArray, List.map_cons, List.map_nil]); first | done | rfl | (simp only [List.length_drop, List.length_take]; rfl)) ?_; (with_reducible refine (field_Prev.calls a0_0 a0_1 _ _ l0_2 a0_3 a0_4 a0_5 (Int.tmod (wrap64 (a1)) (l0_2.length : Int)) t277 _ ?side1 ?side2 A9.out).mono ?_); (case side1 => repeat (first | exact (Kd.C_below HR0_2.out HB.out) | (with_reducible refine Kd.C_alloc ?_ _) | (with_reducible refine Kd.C_drewN ?_ _) | (with_reducible refine Kd.C_drew ?_))); (case side2 => exact HC0_2.out); rintro e w18 ⟨rfl, hb⟩; refine ⟨_, rfl, ?_⟩; have n0_ := Aside0.mk (blk_below (g := gb272) (o := .cells #[.int .i64 a0_0, .int .i64 a0_1, .slice A0_2 l0_2.length c0_2, .int .i64 a0_3, .bool a0_4, .bool a0_5] 24 (0, 0)) (by (with_reducible repeat (first | refine blk_drewN ?_ _ | refine blk_drew ?_ | refine blk_alloc ?_ _)); exact BK272.out) hb); have n1_ := Aside0.mk (below_step (by repeat (first | (with_reducible first | exact HB.out | apply below_alloc | apply pw_below_drewN | apply below_drew1 | refine below_set ?_ GE272.out) | exact HB.out)) hb); clear BK272; clear HB; have BK272 := n0_; have HB := n1_; clear n0_ n1_; (try clear hb); (try clear hb2); (try clear hk); (try clear hi)))
        (try simp only [Act.put, List.setIfInBounds_toArray, List.set_cons_zero, List.set_cons_succ])
        go_cut [36] (fun v36 wc => ∃ (kq : Nat) (x36_9 : Bool), v36 = .bool x36_9 ∧ Aside0 (shutterlaw11_FieldTabs.j0 kq t276 t277 x36_9 a0_0 a0_1 l0_2 a0_3 a0_4 a0_5 = some r) ∧ Aside0 (kq ≤ k) ∧ Aside0 (wc.heap[gb272]? = some (.cells #[.int .i64 a0_0, .int .i64 a0_1, (.slice A0_2 l0_2.length c0_2), .int .i64 a0_3, .bool a0_4, .bool a0_5] 24 (0, 0))) ∧ Aside0 (Below w.heap.size w wc))
        case first =>
          have H := HC10.out
          clear HC10
          by_cases c19 : t276 < 0
          · rw [if_pos c19] at H
            have c19b0 : decide (t276 < 0) = true := decide_eq_true c19
            clear c19
            (first | rw [c19b0] | (simp only [i64_w, i32_w]; rw [c19b0]) | skip)
            have H' := Aside0.mk H
            clear H
            go_wp2
            go_meet
            case rel => exact ⟨_, (true), (by first | rfl | (simp; done) | (simp [*]; done)), H', ⟨by first | omega | exact Nat.le_refl _⟩, ⟨by (with_reducible repeat (first | refine blk_drewN ?_ _ | refine blk_drew ?_ | refine blk_alloc ?_ _)); exact BK272.out⟩, ⟨by repeat (first | (with_reducible first | exact HB.out | apply below_alloc | apply pw_below_drewN | apply below_drew1 | refine below_set ?_ GE272.out) | exact HB.out)⟩⟩
          · rw [if_neg c19] at H
            have c19b0 : decide (t276 < 0) = false := decide_eq_false c19
            clear c19
            (first | rw [c19b0] | (simp only [i64_w, i32_w]; rw [c19b0]) | skip)
            have H' := Aside0.mk H
            clear H
            go_wp2
            go_meet
            case rel => exact ⟨_, (decide (t277 < 0)), (by first | rfl | (simp; done) | (simp [*]; done)), H', ⟨by first | omega | exact Nat.le_refl _⟩, ⟨by (with_reducible repeat (first | refine blk_drewN ?_ _ | refine blk_drew ?_ | refine blk_alloc ?_ _)); exact BK272.out⟩, ⟨by repeat (first | (with_reducible first | exact HB.out | apply below_alloc | apply pw_below_drewN | apply below_drew1 | refine below_set ?_ GE272.out) | exact HB.out)⟩⟩
        case rest =>
          clear HC10
          try clear c1
          try clear c2
          try clear p2
          try clear c4
          try clear c6
          try clear p6
          try clear c7
          try clear c7b0
          try clear c7b1
          try clear c7b2
          try clear c9
          try clear c19
          try clear c19b0
          try clear hcz13_0
          try clear hcz13_1
          try clear hcz13_2
          try clear hcz13_3
          try clear hcz13_4
          try clear hcz13_5
          try clear hcz15_0
          try clear hcz15_1
          try clear hcz15_2
          try clear hcz15_3
          try clear hcz15_4
          try clear hcz15_5
          try clear hcz17_0
          try clear hcz17_1
          try clear hcz17_2
          try clear hcz17_3
          try clear hcz17_4
          try clear hcz17_5
          try clear hfz13_0
          try clear hfz13_1
          try clear hfz13_2
          try clear hfz13_3
          try clear hfz13_4
          try clear hfz13_5
          try clear hfz15_0
          try clear hfz15_1
          try clear hfz15_2
          try clear hfz15_3
          try clear hfz15_4
          try clear hfz15_5
          try clear hfz17_0
          try clear hfz17_1
          try clear hfz17_2
          try clear hfz17_3
          try clear hfz17_4
          try clear hfz17_5
          obtain ⟨kq, x36_9, rfl, HA, HJ9, BK272, HB⟩ := hcut
          cases kq with
          | zero => exact absurd HA.out (by simp [shutterlaw11_FieldTabs.j0])
          | succ kj9 =>
            have H := HA.out
            clear HA
            simp only [shutterlaw11_FieldTabs.j0] at H
            by_cases c20 : x36_9 = true
            · subst c20
              have H1 : (if t276 < 0 then (some (decide (t277 < 0))) else (none)) = some r := by rw [if_pos rfl] at H; exact H
              clear H
              have H := H1
              clear H1
              by_cases c21 : t276 < 0
              · rw [if_pos c21] at H
                have c21b0 : decide (t276 < 0) = true := decide_eq_true c21
                clear c21
                obtain rfl := Option.some.inj H
                go_wp2
                go_ret
                exact ⟨by first | rfl | (simp [errW_none, errW_some] <;> rfl) | (simp [*, errW_none, errW_some] <;> rfl), by repeat (first | (with_reducible first | exact HB.out | apply below_alloc | apply pw_below_drewN | apply below_drew1 | refine below_set ?_ GE272.out) | exact HB.out)⟩
              · rw [if_neg c21] at H
                exact absurd H (by simp)
            · replace c20 := Bool.eq_false_iff.mpr c20
              subst c20
              have H1 : ((field_Cells.f a0_0 a0_1 l0_2 a0_3 a0_4 a0_5 t276).bind fun t278 => ((field_Cells.f a0_0 a0_1 l0_2 a0_3 a0_4 a0_5 t277).bind fun t281 => ((field_Open.f a0_0 a0_1 l0_2 a0_3 a0_4 a0_5 t276).bind fun t284 => (if t284 = true then ((field_Open.f a0_0 a0_1 l0_2 a0_3 a0_4 a0_5 t277).bind fun t285 => (if t285 = true then (if (t278.length : Int) = 0 then (none) else (if (t281.length : Int) = 0 then (none) else (if 0 < (t278.length : Int) then (if (rd t278 0) = t276 then (if 0 < (t281.length : Int) then (if (rd t281 0) = t277 then ((field_Next.f a0_0 a0_1 l0_2 a0_3 a0_4 a0_5 t276).bind fun t288 => (if t288 ≥ 0 then ((field_Prev.f a0_0 a0_1 l0_2 a0_3 a0_4 a0_5 t288).bind fun t289 => (some (t289 == t276))) else (none))) else (none)) else (none)) else (none)) else (none)))) else (none))) else (none))))) = some r := by rw [if_neg (show ¬ (false = true) by decide)] at H; exact H
              clear H
              have H := H1
              clear H1
              replace H := Option.bind_eq_some_iff.mp H
              obtain ⟨t278, A220, H⟩ := H
              replace H : ((field_Cells.f a0_0 a0_1 l0_2 a0_3 a0_4 a0_5 t277).bind fun t281 => ((field_Open.f a0_0 a0_1 l0_2 a0_3 a0_4 a0_5 t276).bind fun t284 => (if t284 = true then ((field_Open.f a0_0 a0_1 l0_2 a0_3 a0_4 a0_5 t277).bind fun t285 => (if t285 = true then (if (t278.length : Int) = 0 then (none) else (if (t281.length : Int) = 0 then (none) else (if 0 < (t278.length : Int) then (if (rd t278 0) = t276 then (if 0 < (t281.length : Int) then (if (rd t281 0) = t277 then ((field_Next.f a0_0 a0_1 l0_2 a0_3 a0_4 a0_5 t276).bind fun t288 => (if t288 ≥ 0 then ((field_Prev.f a0_0 a0_1 l0_2 a0_3 a0_4 a0_5 t288).bind fun t289 => (some (t289 == t276))) else (none))) else (none)) else (none)) else (none)) else (none)))) else (none))) else (none)))) = some r := H
              have A22 := Aside0.mk A220
              clear A220
              replace H := Option.bind_eq_some_iff.mp H
              obtain ⟨t281, A230, H⟩ := H
              replace H : ((field_Open.f a0_0 a0_1 l0_2 a0_3 a0_4 a0_5 t276).bind fun t284 => (if t284 = true then ((field_Open.f a0_0 a0_1 l0_2 a0_3 a0_4 a0_5 t277).bind fun t285 => (if t285 = true then (if (t278.length : Int) = 0 then (none) else (if (t281.length : Int) = 0 then (none) else (if 0 < (t278.length : Int) then (if (rd t278 0) = t276 then (if 0 < (t281.length : Int) then (if (rd t281 0) = t277 then ((field_Next.f a0_0 a0_1 l0_2 a0_3 a0_4 a0_5 t276).bind fun t288 => (if t288 ≥ 0 then ((field_Prev.f a0_0 a0_1 l0_2 a0_3 a0_4 a0_5 t288).bind fun t289 => (some (t289 == t276))) else (none))) else (none)) else (none)) else (none)) else (none)))) else (none))) else (none))) = some r := H
              have A23 := Aside0.mk A230
              clear A230
              replace H := Option.bind_eq_some_iff.mp H
              obtain ⟨t284, A240, H⟩ := H
              replace H : (if t284 = true then ((field_Open.f a0_0 a0_1 l0_2 a0_3 a0_4 a0_5 t277).bind fun t285 => (if t285 = true then (if (t278.length : Int) = 0 then (none) else (if (t281.length : Int) = 0 then (none) else (if 0 < (t278.length : Int) then (if (rd t278 0) = t276 then (if 0 < (t281.length : Int) then (if (rd t281 0) = t277 then ((field_Next.f a0_0 a0_1 l0_2 a0_3 a0_4 a0_5 t276).bind fun t288 => (if t288 ≥ 0 then ((field_Prev.f a0_0 a0_1 l0_2 a0_3 a0_4 a0_5 t288).bind fun t289 => (some (t289 == t276))) else (none))) else (none)) else (none)) else (none)) else (none)))) else (none))) else (none)) = some r := H
              have A24 := Aside0.mk A240
              clear A240
              by_cases c25 : t284 = true
              · subst c25
                have H1 : ((field_Open.f a0_0 a0_1 l0_2 a0_3 a0_4 a0_5 t277).bind fun t285 => (if t285 = true then (if (t278.length : Int) = 0 then (none) else (if (t281.length : Int) = 0 then (none) else (if 0 < (t278.length : Int) then (if (rd t278 0) = t276 then (if 0 < (t281.length : Int) then (if (rd t281 0) = t277 then ((field_Next.f a0_0 a0_1 l0_2 a0_3 a0_4 a0_5 t276).bind fun t288 => (if t288 ≥ 0 then ((field_Prev.f a0_0 a0_1 l0_2 a0_3 a0_4 a0_5 t288).bind fun t289 => (some (t289 == t276))) else (none))) else (none)) else (none)) else (none)) else (none)))) else (none))) = some r := by rw [if_pos rfl] at H; exact H
                clear H
                have H := H1
                clear H1
                replace H := Option.bind_eq_some_iff.mp H
                obtain ⟨t285, A260, H⟩ := H
                replace H : (if t285 = true then (if (t278.length : Int) = 0 then (none) else (if (t281.length : Int) = 0 then (none) else (if 0 < (t278.length : Int) then (if (rd t278 0) = t276 then (if 0 < (t281.length : Int) then (if (rd t281 0) = t277 then ((field_Next.f a0_0 a0_1 l0_2 a0_3 a0_4 a0_5 t276).bind fun t288 => (if t288 ≥ 0 then ((field_Prev.f a0_0 a0_1 l0_2 a0_3 a0_4 a0_5 t288).bind fun t289 => (some (t289 == t276))) else (none))) else (none)) else (none)) else (none)) else (none)))) else (none)) = some r := H
                have A26 := Aside0.mk A260
                clear A260
                by_cases c27 : t285 = true
                · subst c27
                  have H1 : (if (t278.length : Int) = 0 then (none) else (if (t281.length : Int) = 0 then (none) else (if 0 < (t278.length : Int) then (if (rd t278 0) = t276 then (if 0 < (t281.length : Int) then (if (rd t281 0) = t277 then ((field_Next.f a0_0 a0_1 l0_2 a0_3 a0_4 a0_5 t276).bind fun t288 => (if t288 ≥ 0 then ((field_Prev.f a0_0 a0_1 l0_2 a0_3 a0_4 a0_5 t288).bind fun t289 => (some (t289 == t276))) else (none))) else (none)) else (none)) else (none)) else (none)))) = some r := by rw [if_pos rfl] at H; exact H
                  clear H
                  have H := H1
                  clear H1
                  by_cases c28 : (t278.length : Int) = 0
                  · rw [if_pos c28] at H
                    exact absurd H (by simp)
                  · rw [if_neg c28] at H
                    have c28b0 : ((t278.length : Int) == 0) = false := beq_eq_false_iff_ne.mpr c28
                    have c28b1 : ((t278.length : Int) != 0) = true := bne_iff_ne.mpr c28
                    have c28b2 : ¬ (t278 = []) := fun h_ => c28 (by rw [h_]; rfl)
                    by_cases c29 : (t281.length : Int) = 0
                    · rw [if_pos c29] at H
                      exact absurd H (by simp)
                    · rw [if_neg c29] at H
                      have c29b0 : ((t281.length : Int) == 0) = false := beq_eq_false_iff_ne.mpr c29
                      have c29b1 : ((t281.length : Int) != 0) = true := bne_iff_ne.mpr c29
                      have c29b2 : ¬ (t281 = []) := fun h_ => c29 (by rw [h_]; rfl)
                      by_cases c30 : 0 < (t278.length : Int)
                      · rw [if_pos c30] at H
                        have c30b0 : decide (0 < (t278.length : Int)) = true := decide_eq_true c30
                        have c30b1 : decide (0 < t278.length) = true := decide_eq_true (by omega)
                        clear c30
                        by_cases c31 : (rd t278 0) = t276
                        · rw [if_pos c31] at H
                          have c31b0 : ((rd t278 0) == t276) = true := beq_iff_eq.mpr c31
                          have c31b1 : ((rd t278 0) != t276) = false := bne_eq_false_iff_eq.mpr c31
                          clear c31
                          by_cases c32 : 0 < (t281.length : Int)
                          · rw [if_pos c32] at H
                            have c32b0 : decide (0 < (t281.length : Int)) = true := decide_eq_true c32
                            have c32b1 : decide (0 < t281.length) = true := decide_eq_true (by omega)
                            clear c32
                            by_cases c33 : (rd t281 0) = t277
                            · rw [if_pos c33] at H
                              have c33b0 : ((rd t281 0) == t277) = true := beq_iff_eq.mpr c33
                              have c33b1 : ((rd t281 0) != t277) = false := bne_eq_false_iff_eq.mpr c33
                              clear c33
                              replace H := Option.bind_eq_some_iff.mp H
                              obtain ⟨t288, A340, H⟩ := H
                              replace H : (if t288 ≥ 0 then ((field_Prev.f a0_0 a0_1 l0_2 a0_3 a0_4 a0_5 t288).bind fun t289 => (some (t289 == t276))) else (none)) = some r := H
                              have A34 := Aside0.mk A340
                              clear A340
                              by_cases c35 : t288 ≥ 0
                              · rw [if_pos c35] at H
                                have c35b0 : decide (0 ≤ t288) = true := decide_eq_true c35
                                clear c35
                                replace H := Option.bind_eq_some_iff.mp H
                                obtain ⟨t289, A360, H⟩ := H
                                replace H : (some (t289 == t276)) = some r := H
                                have A36 := Aside0.mk A360
                                clear A360
                                obtain rfl := Option.some.inj H
                                have hcz37_0 : wc.cell? ⟨gb272, 0, none⟩ = some (.int .i64 a0_0) := (blk_cell BK272.out 0).trans rfl
                                have hcz37_1 : wc.cell? ⟨gb272, 1, none⟩ = some (.int .i64 a0_1) := (blk_cell BK272.out 1).trans rfl
                                have hcz37_2 : wc.cell? ⟨gb272, 2, none⟩ = some (.slice A0_2 l0_2.length c0_2) := (blk_cell BK272.out 2).trans rfl
                                have hcz37_3 : wc.cell? ⟨gb272, 3, none⟩ = some (.int .i64 a0_3) := (blk_cell BK272.out 3).trans rfl
                                have hcz37_4 : wc.cell? ⟨gb272, 4, none⟩ = some (.bool a0_4) := (blk_cell BK272.out 4).trans rfl
                                have hcz37_5 : wc.cell? ⟨gb272, 5, none⟩ = some (.bool a0_5) := (blk_cell BK272.out 5).trans rfl
                                have hfz37_0 := blk_frozen BK272.out 0
                                have hfz37_1 := blk_frozen BK272.out 1
                                have hfz37_2 := blk_frozen BK272.out 2
                                have hfz37_3 := blk_frozen BK272.out 3
                                have hfz37_4 := blk_frozen BK272.out 4
                                have hfz37_5 := blk_frozen BK272.out 5
                                go_wp2_with (first | ((with_reducible refine gate_callee (f := 16) rfl ?_); refine goesL_ (some 45) rfl rfl Try.func16 (by kernel_rfl) rfl #[.agg #[.int .i64 a0_0, .int .i64 a0_1, .slice A0_2 l0_2.length c0_2, .int .i64 a0_3, .bool a0_4, .bool a0_5], .int .i64 t276] rfl (by (try simp only [List.map_toArray, List.map_cons, List.map_nil]); first | done | rfl | (simp only [List.length_drop, List.length_take]; rfl)) ?_; (with_reducible refine (field_Cells.calls a0_0 a0_1 _ _ l0_2 a0_3 a0_4 a0_5 t276 t278 _ ?side1 ?side2 A22.out).mono ?_); (case side1 => repeat (first | exact (Kd.C_below HR0_2.out HB.out) | (with_reducible refine Kd.C_alloc ?_ _) | (with_reducible refine Kd.C_drewN ?_ _) | (with_reducible refine Kd.C_drew ?_))); (case side2 => exact HC0_2.out); rintro e w38 ⟨v279, rfl, ho0, hb⟩; refine ⟨_, rfl, ?_⟩; have n0_ := Aside0.mk (Kd.R_lower ho0 (below_size (by repeat (first | (with_reducible first | exact HB.out | apply below_alloc | apply pw_below_drewN | apply below_drew1 | refine below_set ?_ GE272.out) | exact HB.out)))); have n1_ := Aside0.mk (blk_below (g := gb272) (o := .cells #[.int .i64 a0_0, .int .i64 a0_1, .slice A0_2 l0_2.length c0_2, .int .i64 a0_3, .bool a0_4, .bool a0_5] 24 (0, 0)) (by (with_reducible repeat (first | refine blk_drewN ?_ _ | refine blk_drew ?_ | refine blk_alloc ?_ _)); exact BK272.out) hb); have n2_ := Aside0.mk (below_step (by repeat (first | (with_reducible first | exact HB.out | apply below_alloc | apply pw_below_drewN | apply below_drew1 | refine below_set ?_ GE272.out) | exact HB.out)) hb); clear BK272; clear HB; have HO280 := n0_; have BK272 := n1_; have HB := n2_; clear n0_ n1_ n2_; (try clear hb); (try clear hb2); (try clear hk); (try clear hi); (try clear ho0); have hcz39_0 : w38.cell? ⟨gb272, 0, none⟩ = some (.int .i64 a0_0) := (blk_cell BK272.out 0).trans rfl; have hcz39_1 : w38.cell? ⟨gb272, 1, none⟩ = some (.int .i64 a0_1) := (blk_cell BK272.out 1).trans rfl; have hcz39_2 : w38.cell? ⟨gb272, 2, none⟩ = some (.slice A0_2 l0_2.length c0_2) := (blk_cell BK272.out 2).trans rfl; have hcz39_3 : w38.cell? ⟨gb272, 3, none⟩ = some (.int .i64 a0_3) := (blk_cell BK272.out 3).trans rfl; have hcz39_4 : w38.cell? ⟨gb272, 4, none⟩ = some (.bool a0_4) := (blk_cell BK272.out 4).trans rfl; have hcz39_5 : w38.cell? ⟨gb272, 5, none⟩ = some (.bool a0_5) := (blk_cell BK272.out 5).trans rfl; have hfz39_0 := blk_frozen BK272.out 0; have hfz39_1 := blk_frozen BK272.out 1; have hfz39_2 := blk_frozen BK272.out 2; have hfz39_3 := blk_frozen BK272.out 3; have hfz39_4 := blk_frozen BK272.out 4; have hfz39_5 := blk_frozen BK272.out 5) | ((with_reducible refine gate_callee (f := 16) rfl ?_); refine goesL_ (some 48) rfl rfl Try.func16 (by kernel_rfl) rfl #[.agg #[.int .i64 a0_0, .int .i64 a0_1, .slice A0_2 l0_2.length c0_2, .int .i64 a0_3, .bool a0_4, .bool a0_5], .int .i64 t277] rfl (by (try simp only [List.map_toArray, List.map_cons, List.map_nil]); first | done | rfl | (simp only [List.length_drop, List.length_take]; rfl)) ?_; (with_reducible refine (field_Cells.calls a0_0 a0_1 _ _ l0_2 a0_3 a0_4 a0_5 t277 t281 _ ?side1 ?side2 A23.out).mono ?_); (case side1 => repeat (first | exact (Kd.C_below HR0_2.out HB.out) | (with_reducible refine Kd.C_alloc ?_ _) | (with_reducible refine Kd.C_drewN ?_ _) | (with_reducible refine Kd.C_drew ?_))); (case side2 => exact HC0_2.out); rintro e w40 ⟨v282, rfl, ho0, hb⟩; refine ⟨_, rfl, ?_⟩; have n0_ := Aside0.mk (Kd.R_elder' (by (with_reducible repeat (first | apply Kd.R_alloc | apply Kd.R_drewN | apply Kd.R_drew)); exact HO280.out) (Kd.R_base ho0) hb); have n1_ := Aside0.mk (Kd.R_lower (Kd.R_new' ho0 (Kd.R_lt (by (with_reducible repeat (first | apply Kd.R_alloc | apply Kd.R_drewN | apply Kd.R_drew)); exact HO280.out))) (below_size (by repeat (first | (with_reducible first | exact HB.out | apply below_alloc | apply pw_below_drewN | apply below_drew1 | refine below_set ?_ GE272.out) | exact HB.out)))); have n2_ := Aside0.mk (blk_below (g := gb272) (o := .cells #[.int .i64 a0_0, .int .i64 a0_1, .slice A0_2 l0_2.length c0_2, .int .i64 a0_3, .bool a0_4, .bool a0_5] 24 (0, 0)) (by (with_reducible repeat (first | refine blk_drewN ?_ _ | refine blk_drew ?_ | refine blk_alloc ?_ _)); exact BK272.out) hb); have n3_ := Aside0.mk (below_step (by repeat (first | (with_reducible first | exact HB.out | apply below_alloc | apply pw_below_drewN | apply below_drew1 | refine below_set ?_ GE272.out) | exact HB.out)) hb); clear HO280; clear BK272; clear HB; have HO280 := n0_; have HO283 := n1_; have BK272 := n2_; have HB := n3_; clear n0_ n1_ n2_ n3_; (try clear hb); (try clear hb2); (try clear hk); (try clear hi); (try clear ho0); have hcz41_0 : w40.cell? ⟨gb272, 0, none⟩ = some (.int .i64 a0_0) := (blk_cell BK272.out 0).trans rfl; have hcz41_1 : w40.cell? ⟨gb272, 1, none⟩ = some (.int .i64 a0_1) := (blk_cell BK272.out 1).trans rfl; have hcz41_2 : w40.cell? ⟨gb272, 2, none⟩ = some (.slice A0_2 l0_2.length c0_2) := (blk_cell BK272.out 2).trans rfl; have hcz41_3 : w40.cell? ⟨gb272, 3, none⟩ = some (.int .i64 a0_3) := (blk_cell BK272.out 3).trans rfl; have hcz41_4 : w40.cell? ⟨gb272, 4, none⟩ = some (.bool a0_4) := (blk_cell BK272.out 4).trans rfl; have hcz41_5 : w40.cell? ⟨gb272, 5, none⟩ = some (.bool a0_5) := (blk_cell BK272.out 5).trans rfl; have hfz41_0 := blk_frozen BK272.out 0; have hfz41_1 := blk_frozen BK272.out 1; have hfz41_2 := blk_frozen BK272.out 2; have hfz41_3 := blk_frozen BK272.out 3; have hfz41_4 := blk_frozen BK272.out 4; have hfz41_5 := blk_frozen BK272.out 5) | ((with_reducible refine gate_callee (f := 20) rfl ?_); refine goesL_ (some 51) rfl rfl Try.func20 (by kernel_rfl) rfl #[.agg #[.int .i64 a0_0, .int .i64 a0_1, .slice A0_2 l0_2.length c0_2, .int .i64 a0_3, .bool a0_4, .bool a0_5], .int .i64 t276] rfl (by (try simp only [List.map_toArray, List.map_cons, List.map_nil]); first | done | rfl | (simp only [List.length_drop, List.length_take]; rfl)) ?_; (with_reducible refine (field_Open.calls a0_0 a0_1 _ _ l0_2 a0_3 a0_4 a0_5 t276 true _ ?side1 ?side2 A24.out).mono ?_); (case side1 => repeat (first | exact (Kd.C_below HR0_2.out HB.out) | (with_reducible refine Kd.C_alloc ?_ _) | (with_reducible refine Kd.C_drewN ?_ _) | (with_reducible refine Kd.C_drew ?_))); (case side2 => exact HC0_2.out); rintro e w42 ⟨rfl, hb⟩; refine ⟨_, rfl, ?_⟩; have n0_ := Aside0.mk (Kd.R_below (by (with_reducible repeat (first | apply Kd.R_alloc | apply Kd.R_drewN | apply Kd.R_drew)); exact HO280.out) hb); have n1_ := Aside0.mk (Kd.R_below (by (with_reducible repeat (first | apply Kd.R_alloc | apply Kd.R_drewN | apply Kd.R_drew)); exact HO283.out) hb); have n2_ := Aside0.mk (blk_below (g := gb272) (o := .cells #[.int .i64 a0_0, .int .i64 a0_1, .slice A0_2 l0_2.length c0_2, .int .i64 a0_3, .bool a0_4, .bool a0_5] 24 (0, 0)) (by (with_reducible repeat (first | refine blk_drewN ?_ _ | refine blk_drew ?_ | refine blk_alloc ?_ _)); exact BK272.out) hb); have n3_ := Aside0.mk (below_step (by repeat (first | (with_reducible first | exact HB.out | apply below_alloc | apply pw_below_drewN | apply below_drew1 | refine below_set ?_ GE272.out) | exact HB.out)) hb); clear HO280; clear HO283; clear BK272; clear HB; have HO280 := n0_; have HO283 := n1_; have BK272 := n2_; have HB := n3_; clear n0_ n1_ n2_ n3_; (try clear hb); (try clear hb2); (try clear hk); (try clear hi); have hcz43_0 : w42.cell? ⟨gb272, 0, none⟩ = some (.int .i64 a0_0) := (blk_cell BK272.out 0).trans rfl; have hcz43_1 : w42.cell? ⟨gb272, 1, none⟩ = some (.int .i64 a0_1) := (blk_cell BK272.out 1).trans rfl; have hcz43_2 : w42.cell? ⟨gb272, 2, none⟩ = some (.slice A0_2 l0_2.length c0_2) := (blk_cell BK272.out 2).trans rfl; have hcz43_3 : w42.cell? ⟨gb272, 3, none⟩ = some (.int .i64 a0_3) := (blk_cell BK272.out 3).trans rfl; have hcz43_4 : w42.cell? ⟨gb272, 4, none⟩ = some (.bool a0_4) := (blk_cell BK272.out 4).trans rfl; have hcz43_5 : w42.cell? ⟨gb272, 5, none⟩ = some (.bool a0_5) := (blk_cell BK272.out 5).trans rfl; have hfz43_0 := blk_frozen BK272.out 0; have hfz43_1 := blk_frozen BK272.out 1; have hfz43_2 := blk_frozen BK272.out 2; have hfz43_3 := blk_frozen BK272.out 3; have hfz43_4 := blk_frozen BK272.out 4; have hfz43_5 := blk_frozen BK272.out 5) | (go_at_call 20; (with_reducible refine (field_Open.calls a0_0 a0_1 _ _ l0_2 a0_3 a0_4 a0_5 t277 true _ ?side1 ?side2 A26.out).mono ?_); (case side1 => repeat (first | exact (Kd.C_below HR0_2.out HB.out) | (with_reducible refine Kd.C_alloc ?_ _) | (with_reducible refine Kd.C_drewN ?_ _) | (with_reducible refine Kd.C_drew ?_))); (case side2 => exact HC0_2.out); rintro e w44 ⟨rfl, hb⟩; have n0_ := Aside0.mk (Kd.R_below (by (with_reducible repeat (first | apply Kd.R_alloc | apply Kd.R_drewN | apply Kd.R_drew)); exact HO280.out) hb); have n1_ := Aside0.mk (Kd.R_below (by (with_reducible repeat (first | apply Kd.R_alloc | apply Kd.R_drewN | apply Kd.R_drew)); exact HO283.out) hb); have n2_ := Aside0.mk (blk_below (g := gb272) (o := .cells #[.int .i64 a0_0, .int .i64 a0_1, .slice A0_2 l0_2.length c0_2, .int .i64 a0_3, .bool a0_4, .bool a0_5] 24 (0, 0)) (by (with_reducible repeat (first | refine blk_drewN ?_ _ | refine blk_drew ?_ | refine blk_alloc ?_ _)); exact BK272.out) hb); have n3_ := Aside0.mk (below_step (by repeat (first | (with_reducible first | exact HB.out | apply below_alloc | apply pw_below_drewN | apply below_drew1 | refine below_set ?_ GE272.out) | exact HB.out)) hb); clear HO280; clear HO283; clear BK272; clear HB; have HO280 := n0_; have HO283 := n1_; have BK272 := n2_; have HB := n3_; clear n0_ n1_ n2_ n3_; (try clear hb); (try clear hb2); (try clear hk); (try clear hi); obtain ⟨Ao45, co45, eo45⟩ := Kd.R_slice HO280.out; subst eo45; obtain ⟨Ao46, co46, eo46⟩ := Kd.R_slice HO283.out; subst eo46; have p286 : 0 ≤ (0 : Int) := (by omega); have q286 : 0 < (t278.length : Int) := of_decide_eq_true (by first | (with_reducible assumption) | assumption); obtain ⟨ad286, e286, hx286_0⟩ := Kd.at_int (Kd.R_reads' HO280.out).2.2 0 p286 q286; cases e286; have qi286 : (0 < t278.length) = True := eq_true (by omega); (try rw [show ((0 : Int)).toNat = 0 from rfl] at hx286_0); (try rw [Addr.add_zero'] at hx286_0); replace p286 := eq_true p286; replace q286 := eq_true q286; have p287 : 0 ≤ (0 : Int) := (by omega); have q287 : 0 < (t281.length : Int) := of_decide_eq_true (by first | (with_reducible assumption) | assumption); obtain ⟨ad287, e287, hx287_0⟩ := Kd.at_int (Kd.R_reads' HO283.out).2.2 0 p287 q287; cases e287; have qi287 : (0 < t281.length) = True := eq_true (by omega); (try rw [show ((0 : Int)).toNat = 0 from rfl] at hx287_0); (try rw [Addr.add_zero'] at hx287_0); replace p287 := eq_true p287; replace q287 := eq_true q287; have hcz47_0 : w44.cell? ⟨gb272, 0, none⟩ = some (.int .i64 a0_0) := (blk_cell BK272.out 0).trans rfl; have hcz47_1 : w44.cell? ⟨gb272, 1, none⟩ = some (.int .i64 a0_1) := (blk_cell BK272.out 1).trans rfl; have hcz47_2 : w44.cell? ⟨gb272, 2, none⟩ = some (.slice A0_2 l0_2.length c0_2) := (blk_cell BK272.out 2).trans rfl; have hcz47_3 : w44.cell? ⟨gb272, 3, none⟩ = some (.int .i64 a0_3) := (blk_cell BK272.out 3).trans rfl; have hcz47_4 : w44.cell? ⟨gb272, 4, none⟩ = some (.bool a0_4) := (blk_cell BK272.out 4).trans rfl; have hcz47_5 : w44.cell? ⟨gb272, 5, none⟩ = some (.bool a0_5) := (blk_cell BK272.out 5).trans rfl; have hfz47_0 := blk_frozen BK272.out 0; have hfz47_1 := blk_frozen BK272.out 1; have hfz47_2 := blk_frozen BK272.out 2; have hfz47_3 := blk_frozen BK272.out 3; have hfz47_4 := blk_frozen BK272.out 4; have hfz47_5 := blk_frozen BK272.out 5) | ((with_reducible refine gate_callee (f := 22) rfl ?_); refine goesL_ (some 85) rfl rfl Try.func22 (by kernel_rfl) rfl #[.agg #[.int .i64 a0_0, .int .i64 a0_1, .slice A0_2 l0_2.length c0_2, .int .i64 a0_3, .bool a0_4, .bool a0_5], .int .i64 t276] rfl (by (try simp only [List.map_toArray, List.map_cons, List.map_nil]); first | done | rfl | (simp only [List.length_drop, List.length_take]; rfl)) ?_; (with_reducible refine (field_Next.calls a0_0 a0_1 _ _ l0_2 a0_3 a0_4 a0_5 t276 t288 _ ?side1 ?side2 A34.out).mono ?_); (case side1 => repeat (first | exact (Kd.C_below HR0_2.out HB.out) | (with_reducible refine Kd.C_alloc ?_ _) | (with_reducible refine Kd.C_drewN ?_ _) | (with_reducible refine Kd.C_drew ?_))); (case side2 => exact HC0_2.out); rintro e w48 ⟨rfl, hb⟩; refine ⟨_, rfl, ?_⟩; have n0_ := Aside0.mk (Kd.R_below (by (with_reducible repeat (first | apply Kd.R_alloc | apply Kd.R_drewN | apply Kd.R_drew)); exact HO280.out) hb); have n1_ := Aside0.mk (Kd.R_below (by (with_reducible repeat (first | apply Kd.R_alloc | apply Kd.R_drewN | apply Kd.R_drew)); exact HO283.out) hb); have n2_ := Aside0.mk (blk_below (g := gb272) (o := .cells #[.int .i64 a0_0, .int .i64 a0_1, .slice A0_2 l0_2.length c0_2, .int .i64 a0_3, .bool a0_4, .bool a0_5] 24 (0, 0)) (by (with_reducible repeat (first | refine blk_drewN ?_ _ | refine blk_drew ?_ | refine blk_alloc ?_ _)); exact BK272.out) hb); have n3_ := Aside0.mk (below_step (by repeat (first | (with_reducible first | exact HB.out | apply below_alloc | apply pw_below_drewN | apply below_drew1 | refine below_set ?_ GE272.out) | exact HB.out)) hb); clear HO280; clear HO283; clear BK272; clear HB; have HO280 := n0_; have HO283 := n1_; have BK272 := n2_; have HB := n3_; clear n0_ n1_ n2_ n3_; (try clear hb); (try clear hb2); (try clear hk); (try clear hi); have hcz49_0 : w48.cell? ⟨gb272, 0, none⟩ = some (.int .i64 a0_0) := (blk_cell BK272.out 0).trans rfl; have hcz49_1 : w48.cell? ⟨gb272, 1, none⟩ = some (.int .i64 a0_1) := (blk_cell BK272.out 1).trans rfl; have hcz49_2 : w48.cell? ⟨gb272, 2, none⟩ = some (.slice A0_2 l0_2.length c0_2) := (blk_cell BK272.out 2).trans rfl; have hcz49_3 : w48.cell? ⟨gb272, 3, none⟩ = some (.int .i64 a0_3) := (blk_cell BK272.out 3).trans rfl; have hcz49_4 : w48.cell? ⟨gb272, 4, none⟩ = some (.bool a0_4) := (blk_cell BK272.out 4).trans rfl; have hcz49_5 : w48.cell? ⟨gb272, 5, none⟩ = some (.bool a0_5) := (blk_cell BK272.out 5).trans rfl; have hfz49_0 := blk_frozen BK272.out 0; have hfz49_1 := blk_frozen BK272.out 1; have hfz49_2 := blk_frozen BK272.out 2; have hfz49_3 := blk_frozen BK272.out 3; have hfz49_4 := blk_frozen BK272.out 4; have hfz49_5 := blk_frozen BK272.out 5) | (go_at_call 24; (with_reducible refine (field_Prev.calls a0_0 a0_1 _ _ l0_2 a0_3 a0_4 a0_5 t288 t289 _ ?side1 ?side2 A36.out).mono ?_); (case side1 => repeat (first | exact (Kd.C_below HR0_2.out HB.out) | (with_reducible refine Kd.C_alloc ?_ _) | (with_reducible refine Kd.C_drewN ?_ _) | (with_reducible refine Kd.C_drew ?_))); (case side2 => exact HC0_2.out); rintro e w50 ⟨rfl, hb⟩; have n0_ := Aside0.mk (Kd.R_below (by (with_reducible repeat (first | apply Kd.R_alloc | apply Kd.R_drewN | apply Kd.R_drew)); exact HO280.out) hb); have n1_ := Aside0.mk (Kd.R_below (by (with_reducible repeat (first | apply Kd.R_alloc | apply Kd.R_drewN | apply Kd.R_drew)); exact HO283.out) hb); have n2_ := Aside0.mk (blk_below (g := gb272) (o := .cells #[.int .i64 a0_0, .int .i64 a0_1, .slice A0_2 l0_2.length c0_2, .int .i64 a0_3, .bool a0_4, .bool a0_5] 24 (0, 0)) (by (with_reducible repeat (first | refine blk_drewN ?_ _ | refine blk_drew ?_ | refine blk_alloc ?_ _)); exact BK272.out) hb); have n3_ := Aside0.mk (below_step (by repeat (first | (with_reducible first | exact HB.out | apply below_alloc | apply pw_below_drewN | apply below_drew1 | refine below_set ?_ GE272.out) | exact HB.out)) hb); clear HO280; clear HO283; clear BK272; clear HB; have HO280 := n0_; have HO283 := n1_; have BK272 := n2_; have HB := n3_; clear n0_ n1_ n2_ n3_; (try clear hb); (try clear hb2); (try clear hk); (try clear hi)))
                                go_ret
                                exact ⟨by first | rfl | (simp [errW_none, errW_some] <;> rfl) | (simp [*, errW_none, errW_some] <;> rfl), by repeat (first | (with_reducible first | exact HB.out | apply below_alloc | apply pw_below_drewN | apply below_drew1 | refine below_set ?_ GE272.out) | exact HB.out)⟩
                              · rw [if_neg c35] at H
                                exact absurd H (by simp)
                            · rw [if_neg c33] at H
                              exact absurd H (by simp)
                          · rw [if_neg c32] at H
                            exact absurd H (by simp)
                        · rw [if_neg c31] at H
                          exact absurd H (by simp)
                      · rw [if_neg c30] at H
                        exact absurd H (by simp)
                · replace c27 := Bool.eq_false_iff.mpr c27
                  subst c27
                  have H1 : (none) = some r := by rw [if_neg (show ¬ (false = true) by decide)] at H; exact H
                  clear H
                  have H := H1
                  clear H1
                  exact absurd H (by simp)
              · replace c25 := Bool.eq_false_iff.mpr c25
                subst c25
                have H1 : (none) = some r := by rw [if_neg (show ¬ (false = true) by decide)] at H; exact H
                clear H
                have H := H1
                clear H1
                exact absurd H (by simp)
    · replace c6 := Bool.eq_false_iff.mpr c6
      subst c6
      have H1 : ((shutterlaw11_awake.f k).bind fun t275 => (some t275)) = some r := by rw [if_neg (show ¬ (false = true) by decide)] at H; exact H
      clear H
      have H := H1
      clear H1
      replace H := Option.bind_eq_some_iff.mp H
      obtain ⟨t275, A510, H⟩ := H
      replace H : (some t275) = some r := H
      have A51 := Aside0.mk A510
      clear A510
      obtain rfl := Option.some.inj H
      go_enter Try.func6, Try.ntmps6
      go_wp2_with (first | ((with_reducible refine gate_dst (N := 2) rfl ?_); (try (refine gate_guard (by rfl) ?_; dsimp only)); refine box_event ?hg (N := 2) ?hd (cs := #[.int .i64 a0_0, .int .i64 a0_1, .slice A0_2 l0_2.length c0_2, .int .i64 a0_3, .bool a0_4, .bool a0_5]) (t := 24) ?hr ?_; (case hd => rfl); (case hg => rfl); (case hr => first | (go_simp; done) | (go_simp; rfl)); intro gb272 hg w52 hbox hb; have n0_ := Aside0.mk (below_step (by repeat (first | (with_reducible first | exact HB.out | apply below_alloc | apply pw_below_drewN | apply below_drew1) | exact HB.out)) hb); have n1_ := Aside0.mk (hbox); have n2_ := Aside0.mk ((by rw [hg]; exact (below_size (by repeat (first | (with_reducible first | exact HB.out | apply below_alloc | apply pw_below_drewN | apply below_drew1) | exact HB.out))) : w.heap.size ≤ gb272)); have n3_ := Aside0.mk ((by rw [hg]; exact (below_size (by repeat (first | (with_reducible first | exact HB.out | apply below_alloc | apply pw_below_drewN | apply below_drew1) | exact HB.out))) : w.heap.size ≤ gb272)); clear HB; have HB := n0_; have BK272 := n1_; have GW272 := n2_; have GE272 := n3_; clear n0_ n1_ n2_ n3_; clear hb hbox hg) | ((with_reducible refine gate_callee (f := 9) rfl ?_); refine goesL_ (some 11) rfl rfl Try.func9 (by kernel_rfl) rfl #[] rfl (by (try simp only [List.map_toArray, List.map_cons, List.map_nil]); first | done | rfl | (simp only [List.length_drop, List.length_take]; rfl)) ?_; (with_reducible refine (shutterlaw11_awake.calls k  true _ A3.out).mono ?_); rintro e w53 ⟨rfl, hb⟩; refine ⟨_, rfl, ?_⟩; have n0_ := Aside0.mk (blk_below (g := gb272) (o := .cells #[.int .i64 a0_0, .int .i64 a0_1, .slice A0_2 l0_2.length c0_2, .int .i64 a0_3, .bool a0_4, .bool a0_5] 24 (0, 0)) (by (with_reducible repeat (first | refine blk_drewN ?_ _ | refine blk_drew ?_ | refine blk_alloc ?_ _)); exact BK272.out) hb); have n1_ := Aside0.mk (below_step (by repeat (first | (with_reducible first | exact HB.out | apply below_alloc | apply pw_below_drewN | apply below_drew1 | refine below_set ?_ GE272.out) | exact HB.out)) hb); clear BK272; clear HB; have BK272 := n0_; have HB := n1_; clear n0_ n1_; (try clear hb); (try clear hb2); (try clear hk); (try clear hi); have hcz54_0 : w53.cell? ⟨gb272, 0, none⟩ = some (.int .i64 a0_0) := (blk_cell BK272.out 0).trans rfl; have hcz54_1 : w53.cell? ⟨gb272, 1, none⟩ = some (.int .i64 a0_1) := (blk_cell BK272.out 1).trans rfl; have hcz54_2 : w53.cell? ⟨gb272, 2, none⟩ = some (.slice A0_2 l0_2.length c0_2) := (blk_cell BK272.out 2).trans rfl; have hcz54_3 : w53.cell? ⟨gb272, 3, none⟩ = some (.int .i64 a0_3) := (blk_cell BK272.out 3).trans rfl; have hcz54_4 : w53.cell? ⟨gb272, 4, none⟩ = some (.bool a0_4) := (blk_cell BK272.out 4).trans rfl; have hcz54_5 : w53.cell? ⟨gb272, 5, none⟩ = some (.bool a0_5) := (blk_cell BK272.out 5).trans rfl; have hfz54_0 := blk_frozen BK272.out 0; have hfz54_1 := blk_frozen BK272.out 1; have hfz54_2 := blk_frozen BK272.out 2; have hfz54_3 := blk_frozen BK272.out 3; have hfz54_4 := blk_frozen BK272.out 4; have hfz54_5 := blk_frozen BK272.out 5) | (go_at_call 10; (with_reducible refine (shutterref10_Few.calls k a0_0 a0_1 _ _ l0_2 a0_3 a0_4 a0_5 false _ ?side1 ?side2 A5.out).mono ?_); (case side1 => repeat (first | exact (Kd.C_below HR0_2.out HB.out) | (with_reducible refine Kd.C_alloc ?_ _) | (with_reducible refine Kd.C_drewN ?_ _) | (with_reducible refine Kd.C_drew ?_))); (case side2 => exact HC0_2.out); rintro e w55 ⟨rfl, hb⟩; have n0_ := Aside0.mk (blk_below (g := gb272) (o := .cells #[.int .i64 a0_0, .int .i64 a0_1, .slice A0_2 l0_2.length c0_2, .int .i64 a0_3, .bool a0_4, .bool a0_5] 24 (0, 0)) (by (with_reducible repeat (first | refine blk_drewN ?_ _ | refine blk_drew ?_ | refine blk_alloc ?_ _)); exact BK272.out) hb); have n1_ := Aside0.mk (below_step (by repeat (first | (with_reducible first | exact HB.out | apply below_alloc | apply pw_below_drewN | apply below_drew1 | refine below_set ?_ GE272.out) | exact HB.out)) hb); clear BK272; clear HB; have BK272 := n0_; have HB := n1_; clear n0_ n1_; (try clear hb); (try clear hb2); (try clear hk); (try clear hi)) | ((with_reducible refine gate_callee (f := 9) rfl ?_); refine goesL_ (some 18) rfl rfl Try.func9 (by kernel_rfl) rfl #[] rfl (by (try simp only [List.map_toArray, List.map_cons, List.map_nil]); first | done | rfl | (simp only [List.length_drop, List.length_take]; rfl)) ?_; (with_reducible refine (shutterlaw11_awake.calls k  t275 _ A51.out).mono ?_); rintro e w56 ⟨rfl, hb⟩; refine ⟨_, rfl, ?_⟩; have n0_ := Aside0.mk (blk_below (g := gb272) (o := .cells #[.int .i64 a0_0, .int .i64 a0_1, .slice A0_2 l0_2.length c0_2, .int .i64 a0_3, .bool a0_4, .bool a0_5] 24 (0, 0)) (by (with_reducible repeat (first | refine blk_drewN ?_ _ | refine blk_drew ?_ | refine blk_alloc ?_ _)); exact BK272.out) hb); have n1_ := Aside0.mk (below_step (by repeat (first | (with_reducible first | exact HB.out | apply below_alloc | apply pw_below_drewN | apply below_drew1 | refine below_set ?_ GE272.out) | exact HB.out)) hb); clear BK272; clear HB; have BK272 := n0_; have HB := n1_; clear n0_ n1_; (try clear hb); (try clear hb2); (try clear hk); (try clear hi)))
      go_ret
      exact ⟨by first | rfl | (simp [errW_none, errW_some] <;> rfl) | (simp [*, errW_none, errW_some] <;> rfl), by repeat (first | (with_reducible first | exact HB.out | apply below_alloc | apply pw_below_drewN | apply below_drew1 | refine below_set ?_ GE272.out) | exact HB.out)⟩
  · replace c4 := Bool.eq_false_iff.mpr c4
    subst c4
    have H1 : (none) = some r := by rw [if_neg (show ¬ (false = true) by decide)] at H; exact H
    clear H
    have H := H1
    clear H1
    exact absurd H (by simp)

/-! ### shutterref10_Copy: function 27 -/
def shutterref10_Copy.f (a0_0 : Int) (a0_1 : Int) (l0_2 : List (S39)) (a0_3 : Int) (a0_4 : Bool) (a0_5 : Bool) : Option (Int × Int × (List (S39)) × Int × Bool × Bool) := (some (([] : List (S39)) : List (S39))).bind fun y292 => (if y292.length + l0_2.length < 3518437208883 then (some (a0_0, a0_1, (y292 ++ l0_2), a0_3, a0_4, a0_5)) else (none))
set_option maxHeartbeats 8000000 in
set_option maxRecDepth 100000 in
theorem shutterref10_Copy.calls (a0_0 : Int) (a0_1 : Int) (A0_2 : Option Addr) (c0_2 : Nat) (l0_2 : List (S39)) (a0_3 : Int) (a0_4 : Bool) (a0_5 : Bool) (r1 : Int) (r2 : Int) (r3 : List (S39)) (r4 : Int) (r5 : Bool) (r6 : Bool) (w : World) (hr0_2 : Kd.C k39 w A0_2 l0_2.length l0_2) (hc0_2 : l0_2.length ≤ c0_2) (h : shutterref10_Copy.f a0_0 a0_1 l0_2 a0_3 a0_4 a0_5 = some (r1, r2, r3, r4, r5, r6)) :
    Calls Try.prog 27 #[.agg #[.int .i64 a0_0, .int .i64 a0_1, .slice A0_2 l0_2.length c0_2, .int .i64 a0_3, .bool a0_4, .bool a0_5]] w fun e w' => ∃ v2_ : Value, e = .returned (.agg #[.int .i64 r1, .int .i64 r2, v2_, .int .i64 r4, .bool r5, .bool r6]) ∧ Kd.R k39 39 w' w.heap.size (fun _ => True) v2_ r3 ∧ Below w.heap.size w w' := by
  have hu24 := Try.underlying24
  have HR0_2 := Aside0.mk hr0_2
  have HC0_2 := Aside0.mk hc0_2
  clear hr0_2 hc0_2
  have HB := Aside0.mk (Below.refl w.heap.size w)
  have H : ((some (([] : List (S39)) : List (S39))).bind fun y292 => (if y292.length + l0_2.length < 3518437208883 then (some (a0_0, a0_1, (y292 ++ l0_2), a0_3, a0_4, a0_5)) else (none))) = some (r1, r2, r3, r4, r5, r6) := h
  clear h
  obtain ⟨y292, hy292⟩ : ∃ y_ : List (S39), y_ = (([] : List (S39))) := ⟨_, rfl⟩
  replace H : (if y292.length + l0_2.length < 3518437208883 then (some (a0_0, a0_1, (y292 ++ l0_2), a0_3, a0_4, a0_5)) else (none)) = some (r1, r2, r3, r4, r5, r6) := by first | (rw [hy292]; with_reducible exact H) | (have H2_ := (Option.bind_some _ _).symm.trans H; rw [hy292]; with_reducible exact H2_) | (have H2_ := (Option.bind_some _ _).symm.trans H; with_reducible exact H2_) | with_reducible exact H | (rw [hy292]; exact H) | exact H
  have Ny292 := Aside0.mk hy292
  clear hy292
  by_cases c2 : y292.length + l0_2.length < 3518437208883
  · rw [if_pos c2] at H
    have LMc2 := Aside0.mk c2
    clear c2
    obtain ⟨y295, hy295⟩ : ∃ y_ : List (S39), y_ = (y292 ++ l0_2) := ⟨_, rfl⟩
    replace H : (some (a0_0, a0_1, y295, a0_3, a0_4, a0_5)) = some (r1, r2, r3, r4, r5, r6) := by first | (rw [hy295]; with_reducible exact H) | (have H2_ := (Option.bind_some _ _).symm.trans H; rw [hy295]; with_reducible exact H2_) | (have H2_ := (Option.bind_some _ _).symm.trans H; with_reducible exact H2_) | with_reducible exact H | (rw [hy295]; exact H) | exact H
    have Ny295 := Aside0.mk hy295
    clear hy295
    simp only [Option.some.injEq, Prod.mk.injEq] at H
    obtain ⟨rfl, rfl, rfl, rfl, rfl, rfl⟩ := H
    go_enter Try.func27, Try.ntmps27
    go_wp2_with (first | ((with_reducible refine gate_dst (N := 1) rfl ?_); refine box_event ?hg (N := 1) ?hd (cs := #[.int .i64 a0_0, .int .i64 a0_1, .slice A0_2 l0_2.length c0_2, .int .i64 a0_3, .bool a0_4, .bool a0_5]) (t := 24) ?hr ?_; (case hd => rfl); (case hg => rfl); (case hr => first | (go_simp; done) | (go_simp; rfl)); intro gb290 hg w3 hbox hb; have n0_ := Aside0.mk (below_step (by repeat (first | (with_reducible first | exact HB.out | apply below_alloc | apply pw_below_drewN | apply below_drew1) | exact HB.out)) hb); have n1_ := Aside0.mk (hbox); have n2_ := Aside0.mk ((by rw [hg]; exact (below_size (by repeat (first | (with_reducible first | exact HB.out | apply below_alloc | apply pw_below_drewN | apply below_drew1) | exact HB.out))) : w.heap.size ≤ gb290)); have n3_ := Aside0.mk ((by rw [hg]; exact (below_size (by repeat (first | (with_reducible first | exact HB.out | apply below_alloc | apply pw_below_drewN | apply below_drew1) | exact HB.out))) : w.heap.size ≤ gb290)); clear HB; have HB := n0_; have BK290 := n1_; have GW290 := n2_; have GE290 := n3_; clear n0_ n1_ n2_ n3_; clear hb hbox hg) | ((with_reducible refine gate_dst (N := 2) rfl ?_); refine box_event ?hg (N := 2) ?hd (cs := #[.int .i64 0, .int .i64 0, .slice none 0 0, .int .i64 0, .bool false, .bool false]) (t := 24) ?hr ?_; (case hd => rfl); (case hg => rfl); (case hr => first | (go_simp; done) | (go_simp; rfl)); intro gb291 hg w4 hbox hb; have n0_ := Aside0.mk (blk_below (g := gb290) (o := .cells #[.int .i64 a0_0, .int .i64 a0_1, .slice A0_2 l0_2.length c0_2, .int .i64 a0_3, .bool a0_4, .bool a0_5] 24 (0, 0)) (by (with_reducible repeat (first | refine blk_drewN ?_ _ | refine blk_drew ?_ | refine blk_alloc ?_ _)); exact BK290.out) hb); have n1_ := Aside0.mk (below_step (by repeat (first | (with_reducible first | exact HB.out | apply below_alloc | apply pw_below_drewN | apply below_drew1 | refine below_set ?_ GE290.out) | exact HB.out)) hb); have n2_ := Aside0.mk (hbox); have n3_ := Aside0.mk ((by rw [hg]; exact (below_size (by repeat (first | (with_reducible first | exact HB.out | apply below_alloc | apply pw_below_drewN | apply below_drew1 | refine below_set ?_ GE290.out) | exact HB.out))) : w.heap.size ≤ gb291)); have n4_ := Aside0.mk ((by rw [hg]; exact (below_size (by repeat (first | (with_reducible first | exact HB.out | apply below_alloc | apply pw_below_drewN | apply below_drew1 | refine below_set ?_ GE290.out) | exact HB.out))) : w.heap.size ≤ gb291)); have n5_ := Aside0.mk ((by rw [hg]; exact Nat.ne_of_lt (blk_lt (g := gb290) (o := .cells #[.int .i64 a0_0, .int .i64 a0_1, .slice A0_2 l0_2.length c0_2, .int .i64 a0_3, .bool a0_4, .bool a0_5] 24 (0, 0)) (by (with_reducible repeat (first | refine blk_drewN ?_ _ | refine blk_drew ?_ | refine blk_alloc ?_ _)); exact BK290.out)) : gb290 ≠ gb291)); have n6_ := Aside0.mk ((by rw [hg]; exact Nat.ne_of_gt (blk_lt (g := gb290) (o := .cells #[.int .i64 a0_0, .int .i64 a0_1, .slice A0_2 l0_2.length c0_2, .int .i64 a0_3, .bool a0_4, .bool a0_5] 24 (0, 0)) (by (with_reducible repeat (first | refine blk_drewN ?_ _ | refine blk_drew ?_ | refine blk_alloc ?_ _)); exact BK290.out)) : gb291 ≠ gb290)); clear BK290; clear HB; have BK290 := n0_; have HB := n1_; have BK291 := n2_; have GW291 := n3_; have GE291 := n4_; have NB290_291 := n5_; have NB291_290 := n6_; clear n0_ n1_ n2_ n3_ n4_ n5_ n6_; clear hb hbox hg) | ((with_reducible refine gate_dst (N := 3) rfl ?_); refine Kd.R_lit k39 _ 39 ?hg (N := 3) ?hd (xs := ([] : List (S39))) (inner := []) (ok := fun _ => True) (okp := fun _ => True) ?hr ?hp (fun _ hk => hk) trivial (Below.refl _ _) (Nat.le_refl _) (by simp) ?_; (case hd => rfl); (case hg => rfl); (case hr => first | (go_simp; done) | (go_simp; rfl)); (case hp => exact (Reps.none _ _)); intro v293 w5 ho6 hb hg_ hnew_; clear hg_ hnew_; (first | rw [← Ny292.out] at ho6 | (simp only [Int.reduceToNat] at ho6; rw [← Ny292.out] at ho6)); have n0_ := Aside0.mk (Kd.R_lower ho6 (below_size (by repeat (first | (with_reducible first | exact HB.out | apply below_alloc | apply pw_below_drewN | apply below_drew1 | refine below_set ?_ GE290.out | refine below_set ?_ GE291.out) | exact HB.out)))); have n1_ := Aside0.mk (blk_below (g := gb290) (o := .cells #[.int .i64 a0_0, .int .i64 a0_1, .slice A0_2 l0_2.length c0_2, .int .i64 a0_3, .bool a0_4, .bool a0_5] 24 (0, 0)) (by (with_reducible repeat (first | refine blk_drewN ?_ _ | refine blk_drew ?_ | refine blk_alloc ?_ _)); exact BK290.out) hb); have n2_ := Aside0.mk (blk_below (g := gb291) (o := .cells #[.int .i64 0, .int .i64 0, .slice none 0 0, .int .i64 0, .bool false, .bool false] 24 (0, 0)) (by (with_reducible repeat (first | refine blk_drewN ?_ _ | refine blk_drew ?_ | refine blk_alloc ?_ _)); exact BK291.out) hb); have n3_ := Aside0.mk (below_step (by repeat (first | (with_reducible first | exact HB.out | apply below_alloc | apply pw_below_drewN | apply below_drew1 | refine below_set ?_ GE290.out | refine below_set ?_ GE291.out) | exact HB.out)) hb); clear BK290; clear BK291; clear HB; have HO294 := n0_; have BK290 := n1_; have BK291 := n2_; have HB := n3_; clear n0_ n1_ n2_ n3_; clear hb ho6; have hnb7 := NB290_291.out; have hnc7 := NB291_290.out; have hcz8_0 : w5.cell? ⟨gb290, 0, none⟩ = some (.int .i64 a0_0) := (blk_cell BK290.out 0).trans rfl; have hcz8_1 : w5.cell? ⟨gb290, 1, none⟩ = some (.int .i64 a0_1) := (blk_cell BK290.out 1).trans rfl; have hcz8_2 : w5.cell? ⟨gb290, 2, none⟩ = some (.slice A0_2 l0_2.length c0_2) := (blk_cell BK290.out 2).trans rfl; have hcz8_3 : w5.cell? ⟨gb290, 3, none⟩ = some (.int .i64 a0_3) := (blk_cell BK290.out 3).trans rfl; have hcz8_4 : w5.cell? ⟨gb290, 4, none⟩ = some (.bool a0_4) := (blk_cell BK290.out 4).trans rfl; have hcz8_5 : w5.cell? ⟨gb290, 5, none⟩ = some (.bool a0_5) := (blk_cell BK290.out 5).trans rfl; have hfz8_0 := blk_frozen BK290.out 0; have hfz8_1 := blk_frozen BK290.out 1; have hfz8_2 := blk_frozen BK290.out 2; have hfz8_3 := blk_frozen BK290.out 3; have hfz8_4 := blk_frozen BK290.out 4; have hfz8_5 := blk_frozen BK290.out 5) | ((with_reducible refine gate_builtin (b := .append) (xs := #[.tmp 3, .tmp 5]) rfl ?_); at_builtin; refine Kd.R_append_rows k39 (w0 := w) w.heap.size rfl (.tmp 3) (.tmp 5) 22 39 (.agg #[(.bool false), (.bool false), (.bool false), (.int .i64 0), (.bool false), (.int .u8 0)]) 40 rfl Try.underlying22 info39 rfl (by decide) (by omega) v293 y292 l0_2 _ _ _ (fun _ => True) (fun _ => False) rfl rfl ?aO ?aR (fun _ _ h => h) (fun _ h => h.elim) ?aF ?aB ?aS ?aL ?_; (case aR => repeat (first | exact (Kd.C_below HR0_2.out HB.out) | (with_reducible refine Kd.C_alloc ?_ _) | (with_reducible refine Kd.C_drewN ?_ _) | (with_reducible refine Kd.C_drew ?_))); (case aB => exact (by repeat (first | (with_reducible first | exact HB.out | apply below_alloc | apply pw_below_drewN | apply below_drew1 | refine below_set ?_ GE290.out | refine below_set ?_ GE291.out) | exact HB.out))); (case aF => exact (fun _ _ => trivial)); (case aO => exact (by (with_reducible repeat (first | apply Kd.R_alloc | apply Kd.R_drewN | apply Kd.R_drew)); exact HO294.out)); (case aS => exact (below_size (by repeat (first | (with_reducible first | exact HB.out | apply below_alloc | apply pw_below_drewN | apply below_drew1 | refine below_set ?_ GE290.out | refine below_set ?_ GE291.out) | exact HB.out)))); (case aL => have := LMc2.out; omega); intro v296 w9 ho hb hg hat; rw [← Ny295.out] at ho; have n0_ := Aside0.mk (blk_grown (g := gb290) (o := .cells #[.int .i64 a0_0, .int .i64 a0_1, .slice A0_2 l0_2.length c0_2, .int .i64 a0_3, .bool a0_4, .bool a0_5] 24 (0, 0)) (by (with_reducible repeat (first | refine blk_drewN ?_ _ | refine blk_drew ?_ | refine blk_alloc ?_ _)); exact BK290.out) hg (Kd.R_ne HO294.out BK290.out (by decide))); have n1_ := Aside0.mk (blk_grown (g := gb291) (o := .cells #[.int .i64 0, .int .i64 0, .slice none 0 0, .int .i64 0, .bool false, .bool false] 24 (0, 0)) (by (with_reducible repeat (first | refine blk_drewN ?_ _ | refine blk_drew ?_ | refine blk_alloc ?_ _)); exact BK291.out) hg (Kd.R_ne HO294.out BK291.out (by decide))); have n2_ := Aside0.mk (hb); have n3_ := Aside0.mk (ho); clear BK290; clear BK291; clear HB; clear HO294; have BK290 := n0_; have BK291 := n1_; have HB := n2_; have HO297 := n3_; clear n0_ n1_ n2_ n3_; clear ho hb hg hat; obtain ⟨Ao10, co10, eo10⟩ := Kd.R_slice HO297.out; subst eo10; have hcz11_0 : w9.cell? ⟨gb290, 0, none⟩ = some (.int .i64 a0_0) := (blk_cell BK290.out 0).trans rfl; have hcz11_1 : w9.cell? ⟨gb290, 1, none⟩ = some (.int .i64 a0_1) := (blk_cell BK290.out 1).trans rfl; have hcz11_2 : w9.cell? ⟨gb290, 2, none⟩ = some (.slice A0_2 l0_2.length c0_2) := (blk_cell BK290.out 2).trans rfl; have hcz11_3 : w9.cell? ⟨gb290, 3, none⟩ = some (.int .i64 a0_3) := (blk_cell BK290.out 3).trans rfl; have hcz11_4 : w9.cell? ⟨gb290, 4, none⟩ = some (.bool a0_4) := (blk_cell BK290.out 4).trans rfl; have hcz11_5 : w9.cell? ⟨gb290, 5, none⟩ = some (.bool a0_5) := (blk_cell BK290.out 5).trans rfl; have hfz11_0 := blk_frozen BK290.out 0; have hfz11_1 := blk_frozen BK290.out 1; have hfz11_2 := blk_frozen BK290.out 2; have hfz11_3 := blk_frozen BK290.out 3; have hfz11_4 := blk_frozen BK290.out 4; have hfz11_5 := blk_frozen BK290.out 5; have hcz12_0 : w9.cell? ⟨gb291, 0, none⟩ = some (.int .i64 0) := (blk_cell BK291.out 0).trans rfl; have hcz12_1 : w9.cell? ⟨gb291, 1, none⟩ = some (.int .i64 0) := (blk_cell BK291.out 1).trans rfl; have hcz12_2 : w9.cell? ⟨gb291, 2, none⟩ = some (.slice none 0 0) := (blk_cell BK291.out 2).trans rfl; have hcz12_3 : w9.cell? ⟨gb291, 3, none⟩ = some (.int .i64 0) := (blk_cell BK291.out 3).trans rfl; have hcz12_4 : w9.cell? ⟨gb291, 4, none⟩ = some (.bool false) := (blk_cell BK291.out 4).trans rfl; have hcz12_5 : w9.cell? ⟨gb291, 5, none⟩ = some (.bool false) := (blk_cell BK291.out 5).trans rfl; have hfz12_0 := blk_frozen BK291.out 0; have hfz12_1 := blk_frozen BK291.out 1; have hfz12_2 := blk_frozen BK291.out 2; have hfz12_3 := blk_frozen BK291.out 3; have hfz12_4 := blk_frozen BK291.out 4; have hfz12_5 := blk_frozen BK291.out 5))
    refine bodyPost_ret (results_cell_row rfl _ _ gb291 24 #[.int .i64 a0_0, .int .i64 a0_1, .slice Ao10 y295.length co10, .int .i64 a0_3, .bool a0_4, .bool a0_5] (0, 0) _ rfl (by (with_reducible repeat (first | refine blk_drewN ?_ _ | refine blk_drew ?_ | refine blk_alloc ?_ _)); refine blk_put (cs := #[.int .i64 a0_0, .int .i64 a0_1, .slice Ao10 y295.length co10, .int .i64 a0_3, .bool a0_4, .bool false]) ?_ 5 _ rfl; (with_reducible repeat (first | refine blk_drewN ?_ _ | refine blk_drew ?_ | refine blk_alloc ?_ _)); refine blk_put (cs := #[.int .i64 a0_0, .int .i64 a0_1, .slice Ao10 y295.length co10, .int .i64 a0_3, .bool false, .bool false]) ?_ 4 _ rfl; (with_reducible repeat (first | refine blk_drewN ?_ _ | refine blk_drew ?_ | refine blk_alloc ?_ _)); refine blk_put (cs := #[.int .i64 a0_0, .int .i64 a0_1, .slice Ao10 y295.length co10, .int .i64 0, .bool false, .bool false]) ?_ 3 _ rfl; (with_reducible repeat (first | refine blk_drewN ?_ _ | refine blk_drew ?_ | refine blk_alloc ?_ _)); refine blk_put (cs := #[.int .i64 a0_0, .int .i64 a0_1, .slice none 0 0, .int .i64 0, .bool false, .bool false]) ?_ 2 _ rfl; (with_reducible repeat (first | refine blk_drewN ?_ _ | refine blk_drew ?_ | refine blk_alloc ?_ _)); refine blk_put (cs := #[.int .i64 a0_0, .int .i64 0, .slice none 0 0, .int .i64 0, .bool false, .bool false]) ?_ 1 _ rfl; (with_reducible repeat (first | refine blk_drewN ?_ _ | refine blk_drew ?_ | refine blk_alloc ?_ _)); refine blk_put (cs := #[.int .i64 0, .int .i64 0, .slice none 0 0, .int .i64 0, .bool false, .bool false]) ?_ 0 _ rfl; (with_reducible repeat (first | refine blk_drewN ?_ _ | refine blk_drew ?_ | refine blk_alloc ?_ _)); refine blk_far ?_ NB291_290.out _; (with_reducible repeat (first | refine blk_drewN ?_ _ | refine blk_drew ?_ | refine blk_alloc ?_ _)); exact BK291.out) Try.underlying24 rfl (by kernel_rfl)) rfl ?_
    exact ⟨_, by first | rfl | (simp [errW_none, errW_some] <;> rfl) | (simp [*, errW_none, errW_some] <;> rfl), by (with_reducible repeat (first | apply Kd.R_alloc | apply Kd.R_drewN | apply Kd.R_drew)); exact Kd.R_mono (Kd.R_far (p := ⟨gb291, 5, none⟩) (Kd.R_far (p := ⟨gb291, 4, none⟩) (Kd.R_far (p := ⟨gb291, 3, none⟩) (Kd.R_far (p := ⟨gb291, 2, none⟩) (Kd.R_far (p := ⟨gb291, 1, none⟩) (Kd.R_far (p := ⟨gb291, 0, none⟩) (Kd.R_far (p := ⟨gb290, 2, none⟩) (Kd.R_types (Kd.R_types HO297.out BK290.out (by decide)) BK291.out (by decide)) (fun _ hk => hk.1.2) (.slice Ao10 y295.length co10)) (fun _ hk => hk.2) (.int .i64 a0_0)) (fun _ hk => hk.2) (.int .i64 a0_1)) (fun _ hk => hk.2) (.slice Ao10 y295.length co10)) (fun _ hk => hk.2) (.int .i64 a0_3)) (fun _ hk => hk.2) (.bool a0_4)) (fun _ hk => hk.2) (.bool a0_5)) (fun _ hk => trivial), by repeat (first | (with_reducible first | exact HB.out | apply below_alloc | apply pw_below_drewN | apply below_drew1 | refine below_set ?_ GE290.out | refine below_set ?_ GE291.out) | exact HB.out)⟩
  · rw [if_neg c2] at H
    exact absurd H (by simp)

end Go.Proofs.Ytapcfcagjlmgjaa.P
