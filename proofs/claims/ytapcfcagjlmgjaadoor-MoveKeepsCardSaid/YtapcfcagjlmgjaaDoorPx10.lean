/- The functions of the seat's laws as plain Lean functions, and that Go's code comes to just their answers. Written by pp.py (wip/tools), a program of this session, on the kit's print. -/
import Derived.Test.YtapcfcagjlmgjaaDoorPx0
import Derived.Test.YtapcfcagjlmgjaaDoorPx8
import Derived.Test.YtapcfcagjlmgjaaDoorPx9
namespace Go.Proofs.YtapcfcagjlmgjaaDoor.P
open Go.RowKit Go.Proofs.YtapcfcagjlmgjaaDoorW.PrintWords Go.Proofs.YtapcfcagjlmgjaaDoorW.PrintLast Go.Proofs.YtapcfcagjlmgjaaDoorW.PrintMore
attribute [local go_sem] max2_int min2_int max_two min_two max_three min_three max_four min_four   -- for this text's walks alone
attribute [local go_sem] Instr.field asAgg
set_option linter.unusedVariables false
set_option linter.unusedSimpArgs false

/-! ### shutterref15_To: function 21 -/
def shutterref15_To.l0 : Nat → Int → Int → Int → Int → Int → List (S44) → Int → Bool → Bool → Option (Int)
 | 0, _, _, _, _, _, _, _, _, _ => none
 | k + 1, x5, x7, x8, x251000, x251001, x251002, x251003, x251004, x251005 => if x8 < x5 then (if x5 = 0 then (none) else ((shutterref11_Open.f k x251000 x251001 x251002 x251003 x251004 x251005 (Int.tmod (wrap64 (x7 + x8)) x5)).bind fun t257 => (if t257 = true then (some (Int.tmod (wrap64 (x7 + x8)) x5)) else (shutterref15_To.l0 k x5 x7 (wrap64 (x8 + 1)) x251000 x251001 x251002 x251003 x251004 x251005)))) else (some 0)
def shutterref15_To.f (k : Nat) (a0_0 : Int) (a0_1 : Int) (l0_2 : List (S44)) (a0_3 : Int) (a0_4 : Bool) (a0_5 : Bool) (a1 : Int) : Option (Int) := if a1 = 2 then (if (l0_2.length : Int) = 0 then (none) else (some (Int.tmod (wrap64 ((wrap64 (a0_3 + (l0_2.length : Int))) - 1)) (l0_2.length : Int)))) else (if a1 = 3 then (if (l0_2.length : Int) = 0 then (none) else (some (Int.tmod (wrap64 (a0_3 + 1)) (l0_2.length : Int)))) else (if a1 = 4 then (if (l0_2.length : Int) = 0 then (none) else (some (Int.tmod (wrap64 ((wrap64 (a0_3 + (l0_2.length : Int))) - a0_1)) (l0_2.length : Int)))) else (if a1 = 5 then (if (l0_2.length : Int) = 0 then (none) else (some (Int.tmod (wrap64 (a0_3 + a0_1)) (l0_2.length : Int)))) else (if a1 = 6 then ((shutterref11_Next.f k a0_0 a0_1 l0_2 a0_3 a0_4 a0_5 a0_3).bind fun t251 => ((shutterref15_zero.f t251).bind fun t252 => (some t252))) else (if a1 = 7 then ((shutterref11_Prev.f k a0_0 a0_1 l0_2 a0_3 a0_4 a0_5 a0_3).bind fun t253 => ((shutterref15_zero.f t253).bind fun t254 => (some t254))) else (if a1 = 8 then ((shutterref11_Next.f k a0_0 a0_1 l0_2 a0_3 a0_4 a0_5 (wrap64 ((l0_2.length : Int) - 1))).bind fun t255 => ((shutterref15_zero.f t255).bind fun t256 => (some t256))) else (if a0_1 = 0 then (none) else (if a0_0 = 0 then (none) else (shutterref15_To.l0 k (l0_2.length : Int) (wrap64 ((Int.tmod (wrap64 ((wrap64 (Int.tdiv a0_3 a0_1)) + 1)) a0_0) * a0_1)) 0 a0_0 a0_1 l0_2 a0_3 a0_4 a0_5)))))))))
theorem shutterref15_To.mono_l : ∀ k, (∀ y0 y1 y2 y3 y4 y5 y6 y7 y8, LeO (shutterref15_To.l0 k y0 y1 y2 y3 y4 y5 y6 y7 y8) (shutterref15_To.l0 (k + 1) y0 y1 y2 y3 y4 y5 y6 y7 y8))
 | 0 => fun _ _ _ _ _ _ _ _ _ r h => by simp [shutterref15_To.l0] at h
 | k + 1 => by
  have ih0 := shutterref15_To.mono_l k
  ·intro y0 y1 y2 y3 y4 y5 y6 y7 y8
   unfold shutterref15_To.l0
   repeat' first
   | (with_reducible exact ih0 _ _ _ _ _ _ _ _ _)
   | (with_reducible exact shutterref11_Next.mono _ _ _ _ _ _ _ _)
   | (with_reducible exact shutterref11_Open.mono _ _ _ _ _ _ _ _)
   | (with_reducible exact shutterref11_Prev.mono _ _ _ _ _ _ _ _)
   | (with_reducible exact LeO.refl _)
   | (with_reducible exact LeO.none _)
   | (with_reducible refine LeO.ite ?_ ?_)
   | (with_reducible refine LeO.bind ?_ (fun _ => ?_))
   | exact ih0 _ _ _ _ _ _ _ _ _
   | exact shutterref11_Next.mono _ _ _ _ _ _ _ _
   | exact shutterref11_Open.mono _ _ _ _ _ _ _ _
   | exact shutterref11_Prev.mono _ _ _ _ _ _ _ _
   | exact LeO.none _
   | refine LeO.ite ?_ ?_
   | refine LeO.bind ?_ (fun _ => ?_)
theorem shutterref15_To.mono : ∀ a0 a1 a2 a3 a4 a5 a6 k, LeO (shutterref15_To.f k a0 a1 a2 a3 a4 a5 a6) (shutterref15_To.f (k + 1) a0 a1 a2 a3 a4 a5 a6) := by
 intro a0 a1 a2 a3 a4 a5 a6 k
 have ih0 := shutterref15_To.mono_l k
 unfold shutterref15_To.f
 repeat' first
   | (with_reducible exact ih0 _ _ _ _ _ _ _ _ _)
   | (with_reducible exact shutterref11_Next.mono _ _ _ _ _ _ _ _)
   | (with_reducible exact shutterref11_Open.mono _ _ _ _ _ _ _ _)
   | (with_reducible exact shutterref11_Prev.mono _ _ _ _ _ _ _ _)
   | (with_reducible exact LeO.refl _)
   | (with_reducible exact LeO.none _)
   | (with_reducible refine LeO.ite ?_ ?_)
   | (with_reducible refine LeO.bind ?_ (fun _ => ?_))
   | exact ih0 _ _ _ _ _ _ _ _ _
   | exact shutterref11_Next.mono _ _ _ _ _ _ _ _
   | exact shutterref11_Open.mono _ _ _ _ _ _ _ _
   | exact shutterref11_Prev.mono _ _ _ _ _ _ _ _
   | exact LeO.none _
   | refine LeO.ite ?_ ?_
   | refine LeO.bind ?_ (fun _ => ?_)
def shutterref15_To.T17 : Bool × List (List Nat × List Nat) := (true, [([], []), ([], []), ([1], [1]), ([0, 2], [0, 2]), ([3], [3]), ([], []), ([5], [5]), ([4, 6], [4, 6]), ([], []), ([8], [8]), ([7, 9], [7, 9]), ([10, 0, 1, 2, 3, 4, 5, 6, 7, 8, 9, 10], [10])])
def shutterref15_To.B17 : List Nat := [0, 0, 2, 7, 15, 0, 32, 127, 0, 256, 1023, 2047]
theorem shutterref15_To.tab17 : rtab .any (opsOf Tryd.f21 17) = shutterref15_To.T17 := by kernel_rfl
theorem shutterref15_To.bits17 : waitsOk shutterref15_To.T17.2 shutterref15_To.B17 = true := by kernel_rfl
set_option maxHeartbeats 8000000 in
set_option maxRecDepth 100000 in
theorem shutterref15_To.calls (k : Nat) (a0_0 : Int) (a0_1 : Int) (A0_2 : Option Addr) (c0_2 : Nat) (l0_2 : List (S44)) (a0_3 : Int) (a0_4 : Bool) (a0_5 : Bool) (a1 : Int) (r : Int) (w : World) (hr0_2 : Kd.C k44 w A0_2 l0_2.length l0_2) (hc0_2 : l0_2.length ≤ c0_2) (h : shutterref15_To.f k a0_0 a0_1 l0_2 a0_3 a0_4 a0_5 a1 = some r) :
  Calls Tryd.prog 21 #[.agg #[.int .i64 a0_0, .int .i64 a0_1, .slice A0_2 l0_2.length c0_2, .int .i64 a0_3, .bool a0_4, .bool a0_5], .int .i64 a1] w fun e w' => e = .returned (.int .i64 r) ∧ Below w.heap.size w w' := by
 have hu24 := Tryd.underlying24
 have HR0_2 := Aside0.mk hr0_2
 have HC0_2 := Aside0.mk hc0_2
 clear hr0_2 hc0_2
 have HB := Aside0.mk (Below.refl w.heap.size w)
 have H : (if a1 = 2 then (if (l0_2.length : Int) = 0 then (none) else (some (Int.tmod (wrap64 ((wrap64 (a0_3 + (l0_2.length : Int))) - 1)) (l0_2.length : Int)))) else (if a1 = 3 then (if (l0_2.length : Int) = 0 then (none) else (some (Int.tmod (wrap64 (a0_3 + 1)) (l0_2.length : Int)))) else (if a1 = 4 then (if (l0_2.length : Int) = 0 then (none) else (some (Int.tmod (wrap64 ((wrap64 (a0_3 + (l0_2.length : Int))) - a0_1)) (l0_2.length : Int)))) else (if a1 = 5 then (if (l0_2.length : Int) = 0 then (none) else (some (Int.tmod (wrap64 (a0_3 + a0_1)) (l0_2.length : Int)))) else (if a1 = 6 then ((shutterref11_Next.f k a0_0 a0_1 l0_2 a0_3 a0_4 a0_5 a0_3).bind fun t251 => ((shutterref15_zero.f t251).bind fun t252 => (some t252))) else (if a1 = 7 then ((shutterref11_Prev.f k a0_0 a0_1 l0_2 a0_3 a0_4 a0_5 a0_3).bind fun t253 => ((shutterref15_zero.f t253).bind fun t254 => (some t254))) else (if a1 = 8 then ((shutterref11_Next.f k a0_0 a0_1 l0_2 a0_3 a0_4 a0_5 (wrap64 ((l0_2.length : Int) - 1))).bind fun t255 => ((shutterref15_zero.f t255).bind fun t256 => (some t256))) else (if a0_1 = 0 then (none) else (if a0_0 = 0 then (none) else (shutterref15_To.l0 k (l0_2.length : Int) (wrap64 ((Int.tmod (wrap64 ((wrap64 (Int.tdiv a0_3 a0_1)) + 1)) a0_0) * a0_1)) 0 a0_0 a0_1 l0_2 a0_3 a0_4 a0_5)))))))))) = some r := h
 clear h
 by_cases c3 : a1 = 2
 ·rw [if_pos c3] at H
  have c3b0 : (a1 == 2) = true := beq_iff_eq.mpr c3
  have c3b1 : (a1 != 2) = false := bne_eq_false_iff_eq.mpr c3
  clear c3
  by_cases c4 : (l0_2.length : Int) = 0
  ·rw [if_pos c4] at H
   exact absurd H (by simp)
  ·rw [if_neg c4] at H
   have c4b0 : ((l0_2.length : Int) == 0) = false := beq_eq_false_iff_ne.mpr c4
   have c4b1 : ((l0_2.length : Int) != 0) = true := bne_iff_ne.mpr c4
   have c4b2 : ¬ (l0_2 = []) := fun h_ => c4 (by rw [h_]; rfl)
   obtain rfl := Option.some.inj H
   go_enter Tryd.func21, Tryd.ntmps21
   go_wp2_with (first | ((with_reducible refine gate_dst (N := 2) rfl ?_); refine box_event ?hg (N := 2) ?hd (cs := #[.int .i64 a0_0, .int .i64 a0_1, .slice A0_2 l0_2.length c0_2, .int .i64 a0_3, .bool a0_4, .bool a0_5]) (t := 24) ?hr ?_; (case hd => rfl); (case hg => rfl); (case hr => first | (go_simp; done) | (go_simp; rfl)); intro gb250 hg w5 hbox hb; have n0_ := Aside0.mk (below_step bl_ hb); have n1_ := Aside0.mk (hbox); have n2_ := Aside0.mk ((le_new hg (below_size bl_) : w.heap.size ≤ gb250)); have n3_ := Aside0.mk ((le_new hg (below_size bl_) : w.heap.size ≤ gb250)); clear HB; have HB := n0_; have BK250 := n1_; have GW250 := n2_; have GE250 := n3_; clear n0_ n1_ n2_ n3_; clear hb hbox hg; obtain ⟨hcz6_0, hcz6_1, hcz6_2, hcz6_3, hcz6_4, hcz6_5, hfz6_0, hfz6_1, hfz6_2, hfz6_3, hfz6_4, hfz6_5⟩ := cells6 (show w5.heap[gb250]? = some (.cells #[.int .i64 a0_0, .int .i64 a0_1, .slice A0_2 l0_2.length c0_2, .int .i64 a0_3, .bool a0_4, .bool a0_5] _ (0, 0)) from BK250.out)))
   go_ret
   exact ⟨by first | rfl | (simp [errW_none, errW_some] <;> rfl) | (simp [*, errW_none, errW_some] <;> rfl), bl_⟩
 ·rw [if_neg c3] at H
  have c3b0 : (a1 == 2) = false := beq_eq_false_iff_ne.mpr c3
  have c3b1 : (a1 != 2) = true := bne_iff_ne.mpr c3
  by_cases c7 : a1 = 3
  ·rw [if_pos c7] at H
   have c7b0 : (a1 == 3) = true := beq_iff_eq.mpr c7
   have c7b1 : (a1 != 3) = false := bne_eq_false_iff_eq.mpr c7
   clear c7
   by_cases c8 : (l0_2.length : Int) = 0
   ·rw [if_pos c8] at H
    exact absurd H (by simp)
   ·rw [if_neg c8] at H
    have c8b0 : ((l0_2.length : Int) == 0) = false := beq_eq_false_iff_ne.mpr c8
    have c8b1 : ((l0_2.length : Int) != 0) = true := bne_iff_ne.mpr c8
    have c8b2 : ¬ (l0_2 = []) := fun h_ => c8 (by rw [h_]; rfl)
    obtain rfl := Option.some.inj H
    go_enter Tryd.func21, Tryd.ntmps21
    go_wp2_with (first | ((with_reducible refine gate_dst (N := 2) rfl ?_); refine box_event ?hg (N := 2) ?hd (cs := #[.int .i64 a0_0, .int .i64 a0_1, .slice A0_2 l0_2.length c0_2, .int .i64 a0_3, .bool a0_4, .bool a0_5]) (t := 24) ?hr ?_; (case hd => rfl); (case hg => rfl); (case hr => first | (go_simp; done) | (go_simp; rfl)); intro gb250 hg w9 hbox hb; have n0_ := Aside0.mk (below_step bl_ hb); have n1_ := Aside0.mk (hbox); have n2_ := Aside0.mk ((le_new hg (below_size bl_) : w.heap.size ≤ gb250)); have n3_ := Aside0.mk ((le_new hg (below_size bl_) : w.heap.size ≤ gb250)); clear HB; have HB := n0_; have BK250 := n1_; have GW250 := n2_; have GE250 := n3_; clear n0_ n1_ n2_ n3_; clear hb hbox hg; obtain ⟨hcz10_0, hcz10_1, hcz10_2, hcz10_3, hcz10_4, hcz10_5, hfz10_0, hfz10_1, hfz10_2, hfz10_3, hfz10_4, hfz10_5⟩ := cells6 (show w9.heap[gb250]? = some (.cells #[.int .i64 a0_0, .int .i64 a0_1, .slice A0_2 l0_2.length c0_2, .int .i64 a0_3, .bool a0_4, .bool a0_5] _ (0, 0)) from BK250.out)))
    go_ret
    exact ⟨by first | rfl | (simp [errW_none, errW_some] <;> rfl) | (simp [*, errW_none, errW_some] <;> rfl), bl_⟩
  ·rw [if_neg c7] at H
   have c7b0 : (a1 == 3) = false := beq_eq_false_iff_ne.mpr c7
   have c7b1 : (a1 != 3) = true := bne_iff_ne.mpr c7
   by_cases c11 : a1 = 4
   ·rw [if_pos c11] at H
    have c11b0 : (a1 == 4) = true := beq_iff_eq.mpr c11
    have c11b1 : (a1 != 4) = false := bne_eq_false_iff_eq.mpr c11
    clear c11
    by_cases c12 : (l0_2.length : Int) = 0
    ·rw [if_pos c12] at H
     exact absurd H (by simp)
    ·rw [if_neg c12] at H
     have c12b0 : ((l0_2.length : Int) == 0) = false := beq_eq_false_iff_ne.mpr c12
     have c12b1 : ((l0_2.length : Int) != 0) = true := bne_iff_ne.mpr c12
     have c12b2 : ¬ (l0_2 = []) := fun h_ => c12 (by rw [h_]; rfl)
     obtain rfl := Option.some.inj H
     go_enter Tryd.func21, Tryd.ntmps21
     go_wp2_with (first | ((with_reducible refine gate_dst (N := 2) rfl ?_); refine box_event ?hg (N := 2) ?hd (cs := #[.int .i64 a0_0, .int .i64 a0_1, .slice A0_2 l0_2.length c0_2, .int .i64 a0_3, .bool a0_4, .bool a0_5]) (t := 24) ?hr ?_; (case hd => rfl); (case hg => rfl); (case hr => first | (go_simp; done) | (go_simp; rfl)); intro gb250 hg w13 hbox hb; have n0_ := Aside0.mk (below_step bl_ hb); have n1_ := Aside0.mk (hbox); have n2_ := Aside0.mk ((le_new hg (below_size bl_) : w.heap.size ≤ gb250)); have n3_ := Aside0.mk ((le_new hg (below_size bl_) : w.heap.size ≤ gb250)); clear HB; have HB := n0_; have BK250 := n1_; have GW250 := n2_; have GE250 := n3_; clear n0_ n1_ n2_ n3_; clear hb hbox hg; obtain ⟨hcz14_0, hcz14_1, hcz14_2, hcz14_3, hcz14_4, hcz14_5, hfz14_0, hfz14_1, hfz14_2, hfz14_3, hfz14_4, hfz14_5⟩ := cells6 (show w13.heap[gb250]? = some (.cells #[.int .i64 a0_0, .int .i64 a0_1, .slice A0_2 l0_2.length c0_2, .int .i64 a0_3, .bool a0_4, .bool a0_5] _ (0, 0)) from BK250.out)))
     go_ret
     exact ⟨by first | rfl | (simp [errW_none, errW_some] <;> rfl) | (simp [*, errW_none, errW_some] <;> rfl), bl_⟩
   ·rw [if_neg c11] at H
    have c11b0 : (a1 == 4) = false := beq_eq_false_iff_ne.mpr c11
    have c11b1 : (a1 != 4) = true := bne_iff_ne.mpr c11
    by_cases c15 : a1 = 5
    ·rw [if_pos c15] at H
     have c15b0 : (a1 == 5) = true := beq_iff_eq.mpr c15
     have c15b1 : (a1 != 5) = false := bne_eq_false_iff_eq.mpr c15
     clear c15
     by_cases c16 : (l0_2.length : Int) = 0
     ·rw [if_pos c16] at H
      exact absurd H (by simp)
     ·rw [if_neg c16] at H
      have c16b0 : ((l0_2.length : Int) == 0) = false := beq_eq_false_iff_ne.mpr c16
      have c16b1 : ((l0_2.length : Int) != 0) = true := bne_iff_ne.mpr c16
      have c16b2 : ¬ (l0_2 = []) := fun h_ => c16 (by rw [h_]; rfl)
      obtain rfl := Option.some.inj H
      go_enter Tryd.func21, Tryd.ntmps21
      go_wp2_with (first | ((with_reducible refine gate_dst (N := 2) rfl ?_); refine box_event ?hg (N := 2) ?hd (cs := #[.int .i64 a0_0, .int .i64 a0_1, .slice A0_2 l0_2.length c0_2, .int .i64 a0_3, .bool a0_4, .bool a0_5]) (t := 24) ?hr ?_; (case hd => rfl); (case hg => rfl); (case hr => first | (go_simp; done) | (go_simp; rfl)); intro gb250 hg w17 hbox hb; have n0_ := Aside0.mk (below_step bl_ hb); have n1_ := Aside0.mk (hbox); have n2_ := Aside0.mk ((le_new hg (below_size bl_) : w.heap.size ≤ gb250)); have n3_ := Aside0.mk ((le_new hg (below_size bl_) : w.heap.size ≤ gb250)); clear HB; have HB := n0_; have BK250 := n1_; have GW250 := n2_; have GE250 := n3_; clear n0_ n1_ n2_ n3_; clear hb hbox hg; obtain ⟨hcz18_0, hcz18_1, hcz18_2, hcz18_3, hcz18_4, hcz18_5, hfz18_0, hfz18_1, hfz18_2, hfz18_3, hfz18_4, hfz18_5⟩ := cells6 (show w17.heap[gb250]? = some (.cells #[.int .i64 a0_0, .int .i64 a0_1, .slice A0_2 l0_2.length c0_2, .int .i64 a0_3, .bool a0_4, .bool a0_5] _ (0, 0)) from BK250.out)))
      go_ret
      exact ⟨by first | rfl | (simp [errW_none, errW_some] <;> rfl) | (simp [*, errW_none, errW_some] <;> rfl), bl_⟩
    ·rw [if_neg c15] at H
     have c15b0 : (a1 == 5) = false := beq_eq_false_iff_ne.mpr c15
     have c15b1 : (a1 != 5) = true := bne_iff_ne.mpr c15
     by_cases c19 : a1 = 6
     ·rw [if_pos c19] at H
      have c19b0 : (a1 == 6) = true := beq_iff_eq.mpr c19
      have c19b1 : (a1 != 6) = false := bne_eq_false_iff_eq.mpr c19
      clear c19
      replace H := Option.bind_eq_some_iff.mp H
      obtain ⟨t251, A200, H⟩ := H
      replace H : ((shutterref15_zero.f t251).bind fun t252 => (some t252)) = some r := H
      have A20 := Aside0.mk A200
      clear A200
      replace H := Option.bind_eq_some_iff.mp H
      obtain ⟨t252, A210, H⟩ := H
      replace H : (some t252) = some r := H
      have A21 := Aside0.mk A210
      clear A210
      obtain rfl := Option.some.inj H
      go_enter Tryd.func21, Tryd.ntmps21
      go_wp2_with (first | ((with_reducible refine gate_dst (N := 2) rfl ?_); refine box_event ?hg (N := 2) ?hd (cs := #[.int .i64 a0_0, .int .i64 a0_1, .slice A0_2 l0_2.length c0_2, .int .i64 a0_3, .bool a0_4, .bool a0_5]) (t := 24) ?hr ?_; (case hd => rfl); (case hg => rfl); (case hr => first | (go_simp; done) | (go_simp; rfl)); intro gb250 hg w22 hbox hb; have n0_ := Aside0.mk (below_step bl_ hb); have n1_ := Aside0.mk (hbox); have n2_ := Aside0.mk ((le_new hg (below_size bl_) : w.heap.size ≤ gb250)); have n3_ := Aside0.mk ((le_new hg (below_size bl_) : w.heap.size ≤ gb250)); clear HB; have HB := n0_; have BK250 := n1_; have GW250 := n2_; have GE250 := n3_; clear n0_ n1_ n2_ n3_; clear hb hbox hg; obtain ⟨hcz23_0, hcz23_1, hcz23_2, hcz23_3, hcz23_4, hcz23_5, hfz23_0, hfz23_1, hfz23_2, hfz23_3, hfz23_4, hfz23_5⟩ := cells6 (show w22.heap[gb250]? = some (.cells #[.int .i64 a0_0, .int .i64 a0_1, .slice A0_2 l0_2.length c0_2, .int .i64 a0_3, .bool a0_4, .bool a0_5] _ (0, 0)) from BK250.out)) | ((with_reducible refine gate_callee (f := 16) rfl ?_); refine goesL_ (some 50) rfl rfl Tryd.func16 (by kernel_rfl) rfl #[.agg #[.int .i64 a0_0, .int .i64 a0_1, .slice A0_2 l0_2.length c0_2, .int .i64 a0_3, .bool a0_4, .bool a0_5], .int .i64 a0_3] rfl ag_ ?_; (with_reducible refine (shutterref11_Next.calls k a0_0 a0_1 _ _ l0_2 a0_3 a0_4 a0_5 a0_3 t251 _ ?side1 ?side2 A20.out).mono ?_); (case side1 => repeat (first | exact (Kd.C_below HR0_2.out HB.out) | (with_reducible apply pC))); (case side2 => exact HC0_2.out); rintro e w24 ⟨rfl, hb⟩; refine ⟨_, rfl, ?_⟩; have n0_ := Aside0.mk (blk_below (g := gb250) (o := .cells #[.int .i64 a0_0, .int .i64 a0_1, .slice A0_2 l0_2.length c0_2, .int .i64 a0_3, .bool a0_4, .bool a0_5] 24 (0, 0)) (by (with_reducible repeat apply pK); exact BK250.out) hb); have n1_ := Aside0.mk (below_step bl_ hb); clear BK250; clear HB; have BK250 := n0_; have HB := n1_; clear n0_ n1_; (try clear hb); (try clear hb2); (try clear hk); (try clear hi)) | ((with_reducible refine gate_callee (f := 33) rfl ?_); refine goesL_ (some 51) rfl rfl Tryd.func33 (by kernel_rfl) rfl #[.int .i64 t251] rfl ag_ ?_; (with_reducible refine (shutterref15_zero.calls t251 t252 _ A21.out).mono ?_); rintro e w' ⟨rfl, ⟨nd, rfl⟩⟩; refine ⟨_, rfl, ?_⟩))
      go_ret
      exact ⟨by first | rfl | (simp [errW_none, errW_some] <;> rfl) | (simp [*, errW_none, errW_some] <;> rfl), bl_⟩
     ·rw [if_neg c19] at H
      have c19b0 : (a1 == 6) = false := beq_eq_false_iff_ne.mpr c19
      have c19b1 : (a1 != 6) = true := bne_iff_ne.mpr c19
      by_cases c25 : a1 = 7
      ·rw [if_pos c25] at H
       have c25b0 : (a1 == 7) = true := beq_iff_eq.mpr c25
       have c25b1 : (a1 != 7) = false := bne_eq_false_iff_eq.mpr c25
       clear c25
       replace H := Option.bind_eq_some_iff.mp H
       obtain ⟨t253, A260, H⟩ := H
       replace H : ((shutterref15_zero.f t253).bind fun t254 => (some t254)) = some r := H
       have A26 := Aside0.mk A260
       clear A260
       replace H := Option.bind_eq_some_iff.mp H
       obtain ⟨t254, A270, H⟩ := H
       replace H : (some t254) = some r := H
       have A27 := Aside0.mk A270
       clear A270
       obtain rfl := Option.some.inj H
       go_enter Tryd.func21, Tryd.ntmps21
       go_wp2_with (first | ((with_reducible refine gate_dst (N := 2) rfl ?_); refine box_event ?hg (N := 2) ?hd (cs := #[.int .i64 a0_0, .int .i64 a0_1, .slice A0_2 l0_2.length c0_2, .int .i64 a0_3, .bool a0_4, .bool a0_5]) (t := 24) ?hr ?_; (case hd => rfl); (case hg => rfl); (case hr => first | (go_simp; done) | (go_simp; rfl)); intro gb250 hg w28 hbox hb; have n0_ := Aside0.mk (below_step bl_ hb); have n1_ := Aside0.mk (hbox); have n2_ := Aside0.mk ((le_new hg (below_size bl_) : w.heap.size ≤ gb250)); have n3_ := Aside0.mk ((le_new hg (below_size bl_) : w.heap.size ≤ gb250)); clear HB; have HB := n0_; have BK250 := n1_; have GW250 := n2_; have GE250 := n3_; clear n0_ n1_ n2_ n3_; clear hb hbox hg; obtain ⟨hcz29_0, hcz29_1, hcz29_2, hcz29_3, hcz29_4, hcz29_5, hfz29_0, hfz29_1, hfz29_2, hfz29_3, hfz29_4, hfz29_5⟩ := cells6 (show w28.heap[gb250]? = some (.cells #[.int .i64 a0_0, .int .i64 a0_1, .slice A0_2 l0_2.length c0_2, .int .i64 a0_3, .bool a0_4, .bool a0_5] _ (0, 0)) from BK250.out)) | ((with_reducible refine gate_callee (f := 34) rfl ?_); refine goesL_ (some 56) rfl rfl Tryd.func34 (by kernel_rfl) rfl #[.agg #[.int .i64 a0_0, .int .i64 a0_1, .slice A0_2 l0_2.length c0_2, .int .i64 a0_3, .bool a0_4, .bool a0_5], .int .i64 a0_3] rfl ag_ ?_; (with_reducible refine (shutterref11_Prev.calls k a0_0 a0_1 _ _ l0_2 a0_3 a0_4 a0_5 a0_3 t253 _ ?side1 ?side2 A26.out).mono ?_); (case side1 => repeat (first | exact (Kd.C_below HR0_2.out HB.out) | (with_reducible apply pC))); (case side2 => exact HC0_2.out); rintro e w30 ⟨rfl, hb⟩; refine ⟨_, rfl, ?_⟩; have n0_ := Aside0.mk (blk_below (g := gb250) (o := .cells #[.int .i64 a0_0, .int .i64 a0_1, .slice A0_2 l0_2.length c0_2, .int .i64 a0_3, .bool a0_4, .bool a0_5] 24 (0, 0)) (by (with_reducible repeat apply pK); exact BK250.out) hb); have n1_ := Aside0.mk (below_step bl_ hb); clear BK250; clear HB; have BK250 := n0_; have HB := n1_; clear n0_ n1_; (try clear hb); (try clear hb2); (try clear hk); (try clear hi)) | ((with_reducible refine gate_callee (f := 33) rfl ?_); refine goesL_ (some 57) rfl rfl Tryd.func33 (by kernel_rfl) rfl #[.int .i64 t253] rfl ag_ ?_; (with_reducible refine (shutterref15_zero.calls t253 t254 _ A27.out).mono ?_); rintro e w' ⟨rfl, ⟨nd, rfl⟩⟩; refine ⟨_, rfl, ?_⟩))
       go_ret
       exact ⟨by first | rfl | (simp [errW_none, errW_some] <;> rfl) | (simp [*, errW_none, errW_some] <;> rfl), bl_⟩
      ·rw [if_neg c25] at H
       have c25b0 : (a1 == 7) = false := beq_eq_false_iff_ne.mpr c25
       have c25b1 : (a1 != 7) = true := bne_iff_ne.mpr c25
       by_cases c31 : a1 = 8
       ·rw [if_pos c31] at H
        have c31b0 : (a1 == 8) = true := beq_iff_eq.mpr c31
        have c31b1 : (a1 != 8) = false := bne_eq_false_iff_eq.mpr c31
        clear c31
        replace H := Option.bind_eq_some_iff.mp H
        obtain ⟨t255, A320, H⟩ := H
        replace H : ((shutterref15_zero.f t255).bind fun t256 => (some t256)) = some r := H
        have A32 := Aside0.mk A320
        clear A320
        replace H := Option.bind_eq_some_iff.mp H
        obtain ⟨t256, A330, H⟩ := H
        replace H : (some t256) = some r := H
        have A33 := Aside0.mk A330
        clear A330
        obtain rfl := Option.some.inj H
        go_enter Tryd.func21, Tryd.ntmps21
        go_wp2_with (first | ((with_reducible refine gate_dst (N := 2) rfl ?_); refine box_event ?hg (N := 2) ?hd (cs := #[.int .i64 a0_0, .int .i64 a0_1, .slice A0_2 l0_2.length c0_2, .int .i64 a0_3, .bool a0_4, .bool a0_5]) (t := 24) ?hr ?_; (case hd => rfl); (case hg => rfl); (case hr => first | (go_simp; done) | (go_simp; rfl)); intro gb250 hg w34 hbox hb; have n0_ := Aside0.mk (below_step bl_ hb); have n1_ := Aside0.mk (hbox); have n2_ := Aside0.mk ((le_new hg (below_size bl_) : w.heap.size ≤ gb250)); have n3_ := Aside0.mk ((le_new hg (below_size bl_) : w.heap.size ≤ gb250)); clear HB; have HB := n0_; have BK250 := n1_; have GW250 := n2_; have GE250 := n3_; clear n0_ n1_ n2_ n3_; clear hb hbox hg; obtain ⟨hcz35_0, hcz35_1, hcz35_2, hcz35_3, hcz35_4, hcz35_5, hfz35_0, hfz35_1, hfz35_2, hfz35_3, hfz35_4, hfz35_5⟩ := cells6 (show w34.heap[gb250]? = some (.cells #[.int .i64 a0_0, .int .i64 a0_1, .slice A0_2 l0_2.length c0_2, .int .i64 a0_3, .bool a0_4, .bool a0_5] _ (0, 0)) from BK250.out)) | ((with_reducible refine gate_callee (f := 16) rfl ?_); refine goesL_ (some 63) rfl rfl Tryd.func16 (by kernel_rfl) rfl #[.agg #[.int .i64 a0_0, .int .i64 a0_1, .slice A0_2 l0_2.length c0_2, .int .i64 a0_3, .bool a0_4, .bool a0_5], .int .i64 (wrap64 ((l0_2.length : Int) - 1))] rfl ag_ ?_; (with_reducible refine (shutterref11_Next.calls k a0_0 a0_1 _ _ l0_2 a0_3 a0_4 a0_5 (wrap64 ((l0_2.length : Int) - 1)) t255 _ ?side1 ?side2 A32.out).mono ?_); (case side1 => repeat (first | exact (Kd.C_below HR0_2.out HB.out) | (with_reducible apply pC))); (case side2 => exact HC0_2.out); rintro e w36 ⟨rfl, hb⟩; refine ⟨_, rfl, ?_⟩; have n0_ := Aside0.mk (blk_below (g := gb250) (o := .cells #[.int .i64 a0_0, .int .i64 a0_1, .slice A0_2 l0_2.length c0_2, .int .i64 a0_3, .bool a0_4, .bool a0_5] 24 (0, 0)) (by (with_reducible repeat apply pK); exact BK250.out) hb); have n1_ := Aside0.mk (below_step bl_ hb); clear BK250; clear HB; have BK250 := n0_; have HB := n1_; clear n0_ n1_; (try clear hb); (try clear hb2); (try clear hk); (try clear hi)) | ((with_reducible refine gate_callee (f := 33) rfl ?_); refine goesL_ (some 64) rfl rfl Tryd.func33 (by kernel_rfl) rfl #[.int .i64 t255] rfl ag_ ?_; (with_reducible refine (shutterref15_zero.calls t255 t256 _ A33.out).mono ?_); rintro e w' ⟨rfl, ⟨nd, rfl⟩⟩; refine ⟨_, rfl, ?_⟩))
        go_ret
        exact ⟨by first | rfl | (simp [errW_none, errW_some] <;> rfl) | (simp [*, errW_none, errW_some] <;> rfl), bl_⟩
       ·rw [if_neg c31] at H
        have c31b0 : (a1 == 8) = false := beq_eq_false_iff_ne.mpr c31
        have c31b1 : (a1 != 8) = true := bne_iff_ne.mpr c31
        by_cases c37 : a0_1 = 0
        ·rw [if_pos c37] at H
         exact absurd H (by simp)
        ·rw [if_neg c37] at H
         have c37b0 : (a0_1 == 0) = false := beq_eq_false_iff_ne.mpr c37
         have c37b1 : (a0_1 != 0) = true := bne_iff_ne.mpr c37
         by_cases c38 : a0_0 = 0
         ·rw [if_pos c38] at H
          exact absurd H (by simp)
         ·rw [if_neg c38] at H
          have c38b0 : (a0_0 == 0) = false := beq_eq_false_iff_ne.mpr c38
          have c38b1 : (a0_0 != 0) = true := bne_iff_ne.mpr c38
          have H' := Aside0.mk H
          clear H
          go_enter Tryd.func21, Tryd.ntmps21
          try go_wp2_with (first | ((with_reducible refine gate_dst (N := 2) rfl ?_); refine box_event ?hg (N := 2) ?hd (cs := #[.int .i64 a0_0, .int .i64 a0_1, .slice A0_2 l0_2.length c0_2, .int .i64 a0_3, .bool a0_4, .bool a0_5]) (t := 24) ?hr ?_; (case hd => rfl); (case hg => rfl); (case hr => first | (go_simp; done) | (go_simp; rfl)); intro gb250 hg w39 hbox hb; have n0_ := Aside0.mk (below_step bl_ hb); have n1_ := Aside0.mk (hbox); have n2_ := Aside0.mk ((le_new hg (below_size bl_) : w.heap.size ≤ gb250)); have n3_ := Aside0.mk ((le_new hg (below_size bl_) : w.heap.size ≤ gb250)); clear HB; have HB := n0_; have BK250 := n1_; have GW250 := n2_; have GE250 := n3_; clear n0_ n1_ n2_ n3_; clear hb hbox hg; obtain ⟨hcz40_0, hcz40_1, hcz40_2, hcz40_3, hcz40_4, hcz40_5, hfz40_0, hfz40_1, hfz40_2, hfz40_3, hfz40_4, hfz40_5⟩ := cells6 (show w39.heap[gb250]? = some (.cells #[.int .i64 a0_0, .int .i64 a0_1, .slice A0_2 l0_2.length c0_2, .int .i64 a0_3, .bool a0_4, .bool a0_5] _ (0, 0)) from BK250.out)))
          have n0_ := Aside0.mk (blk_drew BK250.out)
          have n1_ := Aside0.mk (below_drew1 HB.out)
          clear BK250
          clear HB
          have BK250 := n0_
          have HB := n1_
          clear n0_ n1_
          refine start_ (n := 12) (S := fun w' => w'.cell? ⟨gb250, 0, none⟩ = some (.int .i64 a0_0) ∧ w'.cell? ⟨gb250, 1, none⟩ = some (.int .i64 a0_1) ∧ w'.cell? ⟨gb250, 2, none⟩ = some (.slice A0_2 l0_2.length c0_2) ∧ w'.cell? ⟨gb250, 3, none⟩ = some (.int .i64 a0_3) ∧ w'.cell? ⟨gb250, 4, none⟩ = some (.bool a0_4) ∧ w'.cell? ⟨gb250, 5, none⟩ = some (.bool a0_5)) (ds := []) #[false, false, false, false, false, false, false, false, false, false, false, false] (by kernel_rfl) rfl rfl ⟨(blk_cell BK250.out 0).trans rfl, (blk_cell BK250.out 1).trans rfl, (blk_cell BK250.out 2).trans rfl, (blk_cell BK250.out 3).trans rfl, (blk_cell BK250.out 4).trans rfl, (blk_cell BK250.out 5).trans rfl⟩ (fun hHeld => ?_); refine with_tabW shutterref15_To.tab17 shutterref15_To.bits17 (fun HT_ HW_ => ?_)
          generalize w39.drew = w41 at BK250 HB hHeld ⊢
          refine pure_ (i := 0) (N := some 65) (v := ?_) (a' := ?_) #[true, false, false, false, false, false, false, false, false, false, false, false] rfl rfl (any_of HT_.out (by kernel_rfl)) (fun _ _ _ h => h) (Or.inl ⟨by rfl, ?_⟩) ?_ ?_
          rotate_left
          ·intro w'
           go_simp
           with_reducible rfl
          rotate_left
          ·simp only [Act.put, List.setIfInBounds_toArray, List.set_cons_zero, List.set_cons_succ, i64_w, i32_w]
           rfl
          refine pure_ (i := 1) (N := some 66) (v := ?_) (a' := ?_) #[true, true, false, false, false, false, false, false, false, false, false, false] rfl rfl (any_of HT_.out (by kernel_rfl)) (fun _ _ _ h => h) (Or.inl ⟨by rfl, ?_⟩) ?_ ?_
          rotate_left
          ·intro w'
           go_simp
           with_reducible rfl
          rotate_left
          ·simp only [Act.put, List.setIfInBounds_toArray, List.set_cons_zero, List.set_cons_succ, i64_w, i32_w]
           rfl
          refine pure_ (i := 5) (N := some 70) (v := ?_) (a' := ?_) #[true, true, false, false, false, true, false, false, false, false, false, false] rfl rfl (any_of HT_.out (by kernel_rfl)) (fun _ _ _ h => h) (Or.inl ⟨by rfl, ?_⟩) ?_ ?_
          rotate_left
          ·intro w'
           go_simp
           with_reducible rfl
          rotate_left
          ·simp only [Act.put, List.setIfInBounds_toArray, List.set_cons_zero, List.set_cons_succ, i64_w, i32_w]
           rfl
          refine pure_ (i := 8) (N := some 73) (v := ?_) (a' := ?_) #[true, true, false, false, false, true, false, false, true, false, false, false] rfl rfl (any_of HT_.out (by kernel_rfl)) (fun _ _ _ h => h) (Or.inl ⟨by rfl, ?_⟩) ?_ ?_
          rotate_left
          ·intro w'
           go_simp
           with_reducible rfl
          rotate_left
          ·simp only [Act.put, List.setIfInBounds_toArray, List.set_cons_zero, List.set_cons_succ, i64_w, i32_w]
           rfl
          refine take_ (i := 2) (N := some 67) (v := ?_) (a' := ?_) #[true, true, true, false, false, true, false, false, true, false, false, false] rfl rfl (take_ofW HT_.out HW_.out (by kernel_rfl)) (fun _ _ _ h => h) (Or.inl ⟨by rfl, ?_⟩) hHeld ?_ ?_
          rotate_left
          ·rintro w' ⟨s0, s1, s2, s3, s4, s5⟩
           go_simp
           with_reducible rfl
          rotate_left
          ·simp only [Act.put, List.setIfInBounds_toArray, List.set_cons_zero, List.set_cons_succ, i64_w, i32_w]
           rfl
          refine pure_ (i := 3) (N := some 68) (v := ?_) (a' := ?_) #[true, true, true, true, false, true, false, false, true, false, false, false] rfl rfl (any_of HT_.out (by kernel_rfl)) (fun _ _ _ h => h) (Or.inl ⟨by rfl, ?_⟩) ?_ ?_
          rotate_left
          ·intro w'
           go_simp
           with_reducible rfl
          rotate_left
          ·simp only [Act.put, List.setIfInBounds_toArray, List.set_cons_zero, List.set_cons_succ, i64_w, i32_w]
           rfl
          refine pure_ (i := 4) (N := some 69) (v := ?_) (a' := ?_) #[true, true, true, true, true, true, false, false, true, false, false, false] rfl rfl (any_of HT_.out (by kernel_rfl)) (fun _ _ _ h => h) (Or.inl ⟨by rfl, ?_⟩) ?_ ?_
          rotate_left
          ·intro w'
           go_simp
           with_reducible rfl
          rotate_left
          ·simp only [Act.put, List.setIfInBounds_toArray, List.set_cons_zero, List.set_cons_succ, i64_w, i32_w]
           rfl
          refine take_ (i := 6) (N := some 71) (v := ?_) (a' := ?_) #[true, true, true, true, true, true, true, false, true, false, false, false] rfl rfl (take_ofW HT_.out HW_.out (by kernel_rfl)) (fun _ _ _ h => h) (Or.inl ⟨by rfl, ?_⟩) hHeld ?_ ?_
          rotate_left
          ·rintro w' ⟨s0, s1, s2, s3, s4, s5⟩
           go_simp
           with_reducible rfl
          rotate_left
          ·simp only [Act.put, List.setIfInBounds_toArray, List.set_cons_zero, List.set_cons_succ, i64_w, i32_w]
           rfl
          refine pure_ (i := 7) (N := some 72) (v := ?_) (a' := ?_) #[true, true, true, true, true, true, true, true, true, false, false, false] rfl rfl (any_of HT_.out (by kernel_rfl)) (fun _ _ _ h => h) (Or.inl ⟨by rfl, ?_⟩) ?_ ?_
          rotate_left
          ·intro w'
           go_simp
           with_reducible rfl
          rotate_left
          ·simp only [Act.put, List.setIfInBounds_toArray, List.set_cons_zero, List.set_cons_succ, i64_w, i32_w]
           rfl
          refine take_ (i := 9) (N := some 74) (v := ?_) (a' := ?_) #[true, true, true, true, true, true, true, true, true, true, false, false] rfl rfl (take_ofW HT_.out HW_.out (by kernel_rfl)) (fun _ _ _ h => h) (Or.inl ⟨by rfl, ?_⟩) hHeld ?_ ?_
          rotate_left
          ·rintro w' ⟨s0, s1, s2, s3, s4, s5⟩
           go_simp
           with_reducible rfl
          rotate_left
          ·simp only [Act.put, List.setIfInBounds_toArray, List.set_cons_zero, List.set_cons_succ, i64_w, i32_w]
           rfl
          refine pure_ (i := 10) (N := some 75) (v := ?_) (a' := ?_) #[true, true, true, true, true, true, true, true, true, true, true, false] rfl rfl (any_of HT_.out (by kernel_rfl)) (fun _ _ _ h => h) (Or.inl ⟨by rfl, ?_⟩) ?_ ?_
          rotate_left
          ·intro w'
           go_simp
           with_reducible rfl
          rotate_left
          ·simp only [Act.put, List.setIfInBounds_toArray, List.set_cons_zero, List.set_cons_succ, i64_w, i32_w]
           rfl
          refine pure_ (i := 11) (N := some 7) (v := ?_) (a' := ?_) #[true, true, true, true, true, true, true, true, true, true, true, true] rfl rfl (any_of HT_.out (by kernel_rfl)) (fun _ _ _ h => h) (Or.inl ⟨by rfl, ?_⟩) ?_ ?_
          rotate_left
          ·intro w'
           go_simp
           with_reducible rfl
          rotate_left
          ·simp only [Act.put, List.setIfInBounds_toArray, List.set_cons_zero, List.set_cons_succ, i64_w, i32_w]
           rfl
          refine done_ (done_of HT_.out (by kernel_rfl)) ?_
          try go_wp2
          go_loopg [8] k (fun kq v8 w' => ∃ (x8_1 : Int), v8 = .int .i64 x8_1 ∧ Aside0 (shutterref15_To.l0 kq (l0_2.length : Int) (wrap64 ((Int.tmod (wrap64 ((wrap64 (Int.tdiv a0_3 a0_1)) + 1)) a0_0) * a0_1)) x8_1 a0_0 a0_1 l0_2 a0_3 a0_4 a0_5 = some r) ∧ Aside0 (kq ≤ k) ∧ Aside0 (w'.heap[gb250]? = some (.cells #[.int .i64 a0_0, .int .i64 a0_1, (.slice A0_2 l0_2.length c0_2), .int .i64 a0_3, .bool a0_4, .bool a0_5] 24 (0, 0))) ∧ Aside0 (Below w.heap.size w w'))
          case atStart => exact ⟨(0), (by first | rfl | (simp; done) | (simp [*]; done)), H', ⟨Nat.le_refl _⟩, ⟨by (with_reducible repeat apply pK); exact BK250.out⟩, ⟨bl_⟩⟩
          case round =>
           clear H'
           try clear c1
           try clear c2
           try clear p2
           try clear c3
           try clear c3b0
           try clear c3b1
           try clear c4
           try clear c4b0
           try clear c4b1
           try clear c4b2
           try clear p6
           try clear c7
           try clear c7b0
           try clear c7b1
           try clear c8
           try clear c8b0
           try clear c8b1
           try clear c8b2
           try clear c11
           try clear c11b0
           try clear c11b1
           try clear c12
           try clear c12b0
           try clear c12b1
           try clear c12b2
           try clear c15
           try clear c15b0
           try clear c15b1
           try clear c16
           try clear c16b0
           try clear c16b1
           try clear c16b2
           try clear c19
           try clear c19b0
           try clear c19b1
           try clear c21
           try clear c25
           try clear c25b0
           try clear c25b1
           try clear c31
           try clear c31b0
           try clear c31b1
           try clear c33
           try clear c34
           try clear c37
           try clear c37b0
           try clear c37b1
           try clear c38
           try clear c38b0
           try clear c38b1
           try clear hcz10_0
           try clear hcz10_1
           try clear hcz10_2
           try clear hcz10_3
           try clear hcz10_4
           try clear hcz10_5
           try clear hcz14_0
           try clear hcz14_1
           try clear hcz14_2
           try clear hcz14_3
           try clear hcz14_4
           try clear hcz14_5
           try clear hcz18_0
           try clear hcz18_1
           try clear hcz18_2
           try clear hcz18_3
           try clear hcz18_4
           try clear hcz18_5
           try clear hcz23_0
           try clear hcz23_1
           try clear hcz23_2
           try clear hcz23_3
           try clear hcz23_4
           try clear hcz23_5
           try clear hcz29_0
           try clear hcz29_1
           try clear hcz29_2
           try clear hcz29_3
           try clear hcz29_4
           try clear hcz29_5
           try clear hcz35_0
           try clear hcz35_1
           try clear hcz35_2
           try clear hcz35_3
           try clear hcz35_4
           try clear hcz35_5
           try clear hcz40_0
           try clear hcz40_1
           try clear hcz40_2
           try clear hcz40_3
           try clear hcz40_4
           try clear hcz40_5
           try clear hcz6_0
           try clear hcz6_1
           try clear hcz6_2
           try clear hcz6_3
           try clear hcz6_4
           try clear hcz6_5
           try clear hfz10_0
           try clear hfz10_1
           try clear hfz10_2
           try clear hfz10_3
           try clear hfz10_4
           try clear hfz10_5
           try clear hfz14_0
           try clear hfz14_1
           try clear hfz14_2
           try clear hfz14_3
           try clear hfz14_4
           try clear hfz14_5
           try clear hfz18_0
           try clear hfz18_1
           try clear hfz18_2
           try clear hfz18_3
           try clear hfz18_4
           try clear hfz18_5
           try clear hfz23_0
           try clear hfz23_1
           try clear hfz23_2
           try clear hfz23_3
           try clear hfz23_4
           try clear hfz23_5
           try clear hfz29_0
           try clear hfz29_1
           try clear hfz29_2
           try clear hfz29_3
           try clear hfz29_4
           try clear hfz29_5
           try clear hfz35_0
           try clear hfz35_1
           try clear hfz35_2
           try clear hfz35_3
           try clear hfz35_4
           try clear hfz35_5
           try clear hfz40_0
           try clear hfz40_1
           try clear hfz40_2
           try clear hfz40_3
           try clear hfz40_4
           try clear hfz40_5
           try clear hfz6_0
           try clear hfz6_1
           try clear hfz6_2
           try clear hfz6_3
           try clear hfz6_4
           try clear hfz6_5
           obtain ⟨x8_1, rfl, HA, HK1, BK250, HB⟩ := hrel
           cases gk with
           | zero => exact absurd HA.out (by simp [shutterref15_To.l0])
           | succ k1 =>
            have H := HA.out
            clear HA
            simp only [shutterref15_To.l0] at H
            by_cases c42 : x8_1 < (l0_2.length : Int)
            ·rw [if_pos c42] at H
             have c42b0 : decide (x8_1 < (l0_2.length : Int)) = true := decide_eq_true c42
             clear c42
             by_cases c43 : (l0_2.length : Int) = 0
             ·rw [if_pos c43] at H
              exact absurd H (by simp)
             ·rw [if_neg c43] at H
              have c43b0 : ((l0_2.length : Int) == 0) = false := beq_eq_false_iff_ne.mpr c43
              have c43b1 : ((l0_2.length : Int) != 0) = true := bne_iff_ne.mpr c43
              have c43b2 : ¬ (l0_2 = []) := fun h_ => c43 (by rw [h_]; rfl)
              replace H := Option.bind_eq_some_iff.mp H
              obtain ⟨t257, A440, H⟩ := H
              replace H : (if t257 = true then (some (Int.tmod (wrap64 ((wrap64 ((Int.tmod (wrap64 ((wrap64 (Int.tdiv a0_3 a0_1)) + 1)) a0_0) * a0_1)) + x8_1)) (l0_2.length : Int))) else (shutterref15_To.l0 k1 (l0_2.length : Int) (wrap64 ((Int.tmod (wrap64 ((wrap64 (Int.tdiv a0_3 a0_1)) + 1)) a0_0) * a0_1)) (wrap64 (x8_1 + 1)) a0_0 a0_1 l0_2 a0_3 a0_4 a0_5)) = some r := H
              have A44 := Aside0.mk A440
              clear A440
              by_cases c45 : t257 = true
              ·subst c45
               have H1 : (some (Int.tmod (wrap64 ((wrap64 ((Int.tmod (wrap64 ((wrap64 (Int.tdiv a0_3 a0_1)) + 1)) a0_0) * a0_1)) + x8_1)) (l0_2.length : Int))) = some r := by rw [if_pos rfl] at H; exact H
               clear H
               have H := H1
               clear H1
               obtain rfl := Option.some.inj H
               try go_wp2
               have n0_ := Aside0.mk (blk_drew BK250.out)
               have n1_ := Aside0.mk (below_drew1 HB.out)
               clear BK250
               clear HB
               have BK250 := n0_
               have HB := n1_
               clear n0_ n1_
               refine start_ (n := 7) (S := fun w' => w'.cell? ⟨gb250, 0, none⟩ = some (.int .i64 a0_0) ∧ w'.cell? ⟨gb250, 1, none⟩ = some (.int .i64 a0_1) ∧ w'.cell? ⟨gb250, 2, none⟩ = some (.slice A0_2 l0_2.length c0_2) ∧ w'.cell? ⟨gb250, 3, none⟩ = some (.int .i64 a0_3) ∧ w'.cell? ⟨gb250, 4, none⟩ = some (.bool a0_4) ∧ w'.cell? ⟨gb250, 5, none⟩ = some (.bool a0_5)) (ds := []) #[false, false, false, false, false, false, false] (by kernel_rfl) rfl rfl ⟨(blk_cell BK250.out 0).trans rfl, (blk_cell BK250.out 1).trans rfl, (blk_cell BK250.out 2).trans rfl, (blk_cell BK250.out 3).trans rfl, (blk_cell BK250.out 4).trans rfl, (blk_cell BK250.out 5).trans rfl⟩ (fun hHeld => ?_)
               generalize wr.drew = w46 at BK250 HB hHeld ⊢
               refine pure_ (i := 1) (N := some 82) (v := ?_) (a' := ?_) #[false, true, false, false, false, false, false] rfl rfl (by kernel_rfl) (fun _ _ _ h => h) (Or.inl ⟨by rfl, ?_⟩) ?_ ?_
               rotate_left
               ·intro w'
                go_simp
                with_reducible rfl
               rotate_left
               ·simp only [Act.put, List.setIfInBounds_toArray, List.set_cons_zero, List.set_cons_succ, i64_w, i32_w]
                rfl
               refine pure_ (i := 2) (N := some 83) (v := ?_) (a' := ?_) #[false, true, true, false, false, false, false] rfl rfl (by kernel_rfl) (fun _ _ _ h => h) (Or.inl ⟨by rfl, ?_⟩) ?_ ?_
               rotate_left
               ·intro w'
                go_simp
                with_reducible rfl
               rotate_left
               ·simp only [Act.put, List.setIfInBounds_toArray, List.set_cons_zero, List.set_cons_succ, i64_w, i32_w]
                rfl
               refine pure_ (i := 3) (N := some 84) (v := ?_) (a' := ?_) #[false, true, true, true, false, false, false] rfl rfl (by kernel_rfl) (fun _ _ _ h => h) (Or.inl ⟨by rfl, ?_⟩) ?_ ?_
               rotate_left
               ·intro w'
                go_simp
                with_reducible rfl
               rotate_left
               ·simp only [Act.put, List.setIfInBounds_toArray, List.set_cons_zero, List.set_cons_succ, i64_w, i32_w]
                rfl
               refine pure_ (i := 4) (N := some 85) (v := ?_) (a' := ?_) #[false, true, true, true, true, false, false] rfl rfl (by kernel_rfl) (fun _ _ _ h => h) (Or.inl ⟨by rfl, ?_⟩) ?_ ?_
               rotate_left
               ·intro w'
                go_simp
                with_reducible rfl
               rotate_left
               ·simp only [Act.put, List.setIfInBounds_toArray, List.set_cons_zero, List.set_cons_succ, i64_w, i32_w]
                rfl
               refine pure_ (i := 5) (N := some 86) (v := ?_) (a' := ?_) #[false, true, true, true, true, true, false] rfl rfl (by kernel_rfl) (fun _ _ _ h => h) (Or.inl ⟨by rfl, ?_⟩) ?_ ?_
               rotate_left
               ·intro w'
                go_simp
                with_reducible rfl
               rotate_left
               ·simp only [Act.put, List.setIfInBounds_toArray, List.set_cons_zero, List.set_cons_succ, i64_w, i32_w]
                rfl
               refine take_ (i := 0) (N := some 81) (v := ?_) (a' := ?_) #[true, true, true, true, true, true, false] rfl rfl (by kernel_rfl) (fun _ _ _ h => h) (Or.inl ⟨by rfl, ?_⟩) hHeld ?_ ?_
               rotate_left
               ·rintro w' ⟨s0, s1, s2, s3, s4, s5⟩
                go_simp
                with_reducible rfl
               rotate_left
               ·simp only [Act.put, List.setIfInBounds_toArray, List.set_cons_zero, List.set_cons_succ, i64_w, i32_w]
                rfl
               refine one_ (i := 6) (N := some 87) #[true, true, true, true, true, true, true] rfl rfl (by kernel_rfl) (by decide) (fun K hK => ?_)
               refine goes_ Tryd.func17 (by kernel_rfl) rfl #[.agg #[.int .i64 a0_0, .int .i64 a0_1, .slice A0_2 l0_2.length c0_2, .int .i64 a0_3, .bool a0_4, .bool a0_5], .int .i64 (Int.tmod (wrap64 ((wrap64 ((Int.tmod (wrap64 ((wrap64 (Int.tdiv a0_3 a0_1)) + 1)) a0_0) * a0_1)) + x8_1)) (l0_2.length : Int))] (by rfl) rfl rfl ag_ ?_
               with_reducible refine (shutterref11_Open.calls k1 a0_0 a0_1 _ _ l0_2 a0_3 a0_4 a0_5 (Int.tmod (wrap64 ((wrap64 ((Int.tmod (wrap64 ((wrap64 (Int.tdiv a0_3 a0_1)) + 1)) a0_0) * a0_1)) + x8_1)) (l0_2.length : Int)) true _ ?side1 ?side2 A44.out).mono ?_
               (case side1 => repeat (first | exact (Kd.C_below HR0_2.out HB.out) | (with_reducible apply pC)))
               (case side2 => exact HC0_2.out)
               rintro e w47 ⟨rfl, hb⟩
               refine ⟨_, rfl, ?_⟩
               have n0_ := Aside0.mk (blk_below (g := gb250) (o := .cells #[.int .i64 a0_0, .int .i64 a0_1, .slice A0_2 l0_2.length c0_2, .int .i64 a0_3, .bool a0_4, .bool a0_5] 24 (0, 0)) (by (with_reducible repeat apply pK); exact BK250.out) hb)
               have n1_ := Aside0.mk (below_step bl_ hb)
               clear BK250
               clear HB
               have BK250 := n0_
               have HB := n1_
               clear n0_ n1_
               (try clear hb)
               (try clear hb2)
               (try clear hk)
               (try clear hi)
               refine hK.out _ _ ⟨(blk_cell BK250.out 0).trans rfl, (blk_cell BK250.out 1).trans rfl, (blk_cell BK250.out 2).trans rfl, (blk_cell BK250.out 3).trans rfl, (blk_cell BK250.out 4).trans rfl, (blk_cell BK250.out 5).trans rfl⟩ (fun hHeld => ?_)
               clear hK K
               refine norm_ (a' := ?_) ?_ ?_
               rotate_left
               ·show Act.put _ (some 87) _ = _
                simp only [Act.put, List.setIfInBounds_toArray, List.set_cons_zero, List.set_cons_succ, i64_w, i32_w]
                rfl
               refine done_ (by kernel_rfl) ?_
               try go_wp2
               go_ret
               exact ⟨by first | rfl | (simp [errW_none, errW_some] <;> rfl) | (simp [*, errW_none, errW_some] <;> rfl), bl_⟩
              ·replace c45 := Bool.eq_false_iff.mpr c45
               subst c45
               have H1 : (shutterref15_To.l0 k1 (l0_2.length : Int) (wrap64 ((Int.tmod (wrap64 ((wrap64 (Int.tdiv a0_3 a0_1)) + 1)) a0_0) * a0_1)) (wrap64 (x8_1 + 1)) a0_0 a0_1 l0_2 a0_3 a0_4 a0_5) = some r := by rw [if_neg (show ¬ (false = true) by decide)] at H; exact H
               clear H
               have H := H1
               clear H1
               have H' := Aside0.mk H
               clear H
               try go_wp2
               have n0_ := Aside0.mk (blk_drew BK250.out)
               have n1_ := Aside0.mk (below_drew1 HB.out)
               clear BK250
               clear HB
               have BK250 := n0_
               have HB := n1_
               clear n0_ n1_
               refine start_ (n := 7) (S := fun w' => w'.cell? ⟨gb250, 0, none⟩ = some (.int .i64 a0_0) ∧ w'.cell? ⟨gb250, 1, none⟩ = some (.int .i64 a0_1) ∧ w'.cell? ⟨gb250, 2, none⟩ = some (.slice A0_2 l0_2.length c0_2) ∧ w'.cell? ⟨gb250, 3, none⟩ = some (.int .i64 a0_3) ∧ w'.cell? ⟨gb250, 4, none⟩ = some (.bool a0_4) ∧ w'.cell? ⟨gb250, 5, none⟩ = some (.bool a0_5)) (ds := []) #[false, false, false, false, false, false, false] (by kernel_rfl) rfl rfl ⟨(blk_cell BK250.out 0).trans rfl, (blk_cell BK250.out 1).trans rfl, (blk_cell BK250.out 2).trans rfl, (blk_cell BK250.out 3).trans rfl, (blk_cell BK250.out 4).trans rfl, (blk_cell BK250.out 5).trans rfl⟩ (fun hHeld => ?_)
               generalize wr.drew = w48 at BK250 HB hHeld ⊢
               refine pure_ (i := 1) (N := some 82) (v := ?_) (a' := ?_) #[false, true, false, false, false, false, false] rfl rfl (by kernel_rfl) (fun _ _ _ h => h) (Or.inl ⟨by rfl, ?_⟩) ?_ ?_
               rotate_left
               ·intro w'
                go_simp
                with_reducible rfl
               rotate_left
               ·simp only [Act.put, List.setIfInBounds_toArray, List.set_cons_zero, List.set_cons_succ, i64_w, i32_w]
                rfl
               refine pure_ (i := 2) (N := some 83) (v := ?_) (a' := ?_) #[false, true, true, false, false, false, false] rfl rfl (by kernel_rfl) (fun _ _ _ h => h) (Or.inl ⟨by rfl, ?_⟩) ?_ ?_
               rotate_left
               ·intro w'
                go_simp
                with_reducible rfl
               rotate_left
               ·simp only [Act.put, List.setIfInBounds_toArray, List.set_cons_zero, List.set_cons_succ, i64_w, i32_w]
                rfl
               refine pure_ (i := 3) (N := some 84) (v := ?_) (a' := ?_) #[false, true, true, true, false, false, false] rfl rfl (by kernel_rfl) (fun _ _ _ h => h) (Or.inl ⟨by rfl, ?_⟩) ?_ ?_
               rotate_left
               ·intro w'
                go_simp
                with_reducible rfl
               rotate_left
               ·simp only [Act.put, List.setIfInBounds_toArray, List.set_cons_zero, List.set_cons_succ, i64_w, i32_w]
                rfl
               refine pure_ (i := 4) (N := some 85) (v := ?_) (a' := ?_) #[false, true, true, true, true, false, false] rfl rfl (by kernel_rfl) (fun _ _ _ h => h) (Or.inl ⟨by rfl, ?_⟩) ?_ ?_
               rotate_left
               ·intro w'
                go_simp
                with_reducible rfl
               rotate_left
               ·simp only [Act.put, List.setIfInBounds_toArray, List.set_cons_zero, List.set_cons_succ, i64_w, i32_w]
                rfl
               refine pure_ (i := 5) (N := some 86) (v := ?_) (a' := ?_) #[false, true, true, true, true, true, false] rfl rfl (by kernel_rfl) (fun _ _ _ h => h) (Or.inl ⟨by rfl, ?_⟩) ?_ ?_
               rotate_left
               ·intro w'
                go_simp
                with_reducible rfl
               rotate_left
               ·simp only [Act.put, List.setIfInBounds_toArray, List.set_cons_zero, List.set_cons_succ, i64_w, i32_w]
                rfl
               refine take_ (i := 0) (N := some 81) (v := ?_) (a' := ?_) #[true, true, true, true, true, true, false] rfl rfl (by kernel_rfl) (fun _ _ _ h => h) (Or.inl ⟨by rfl, ?_⟩) hHeld ?_ ?_
               rotate_left
               ·rintro w' ⟨s0, s1, s2, s3, s4, s5⟩
                go_simp
                with_reducible rfl
               rotate_left
               ·simp only [Act.put, List.setIfInBounds_toArray, List.set_cons_zero, List.set_cons_succ, i64_w, i32_w]
                rfl
               refine one_ (i := 6) (N := some 87) #[true, true, true, true, true, true, true] rfl rfl (by kernel_rfl) (by decide) (fun K hK => ?_)
               refine goes_ Tryd.func17 (by kernel_rfl) rfl #[.agg #[.int .i64 a0_0, .int .i64 a0_1, .slice A0_2 l0_2.length c0_2, .int .i64 a0_3, .bool a0_4, .bool a0_5], .int .i64 (Int.tmod (wrap64 ((wrap64 ((Int.tmod (wrap64 ((wrap64 (Int.tdiv a0_3 a0_1)) + 1)) a0_0) * a0_1)) + x8_1)) (l0_2.length : Int))] (by rfl) rfl rfl ag_ ?_
               with_reducible refine (shutterref11_Open.calls k1 a0_0 a0_1 _ _ l0_2 a0_3 a0_4 a0_5 (Int.tmod (wrap64 ((wrap64 ((Int.tmod (wrap64 ((wrap64 (Int.tdiv a0_3 a0_1)) + 1)) a0_0) * a0_1)) + x8_1)) (l0_2.length : Int)) false _ ?side1 ?side2 A44.out).mono ?_
               (case side1 => repeat (first | exact (Kd.C_below HR0_2.out HB.out) | (with_reducible apply pC)))
               (case side2 => exact HC0_2.out)
               rintro e w49 ⟨rfl, hb⟩
               refine ⟨_, rfl, ?_⟩
               have n0_ := Aside0.mk (blk_below (g := gb250) (o := .cells #[.int .i64 a0_0, .int .i64 a0_1, .slice A0_2 l0_2.length c0_2, .int .i64 a0_3, .bool a0_4, .bool a0_5] 24 (0, 0)) (by (with_reducible repeat apply pK); exact BK250.out) hb)
               have n1_ := Aside0.mk (below_step bl_ hb)
               clear BK250
               clear HB
               have BK250 := n0_
               have HB := n1_
               clear n0_ n1_
               (try clear hb)
               (try clear hb2)
               (try clear hk)
               (try clear hi)
               refine hK.out _ _ ⟨(blk_cell BK250.out 0).trans rfl, (blk_cell BK250.out 1).trans rfl, (blk_cell BK250.out 2).trans rfl, (blk_cell BK250.out 3).trans rfl, (blk_cell BK250.out 4).trans rfl, (blk_cell BK250.out 5).trans rfl⟩ (fun hHeld => ?_)
               clear hK K
               refine norm_ (a' := ?_) ?_ ?_
               rotate_left
               ·show Act.put _ (some 87) _ = _
                simp only [Act.put, List.setIfInBounds_toArray, List.set_cons_zero, List.set_cons_succ, i64_w, i32_w]
                rfl
               refine done_ (by kernel_rfl) ?_
               try go_wp2
               go_roundg k1
               case measure => have := HK1.out; omega
               case rel => exact ⟨(wrap64 (x8_1 + 1)), (by first | rfl | (simp; done) | (simp [*]; done)), H', ⟨by have := HK1.out; omega⟩, ⟨by (with_reducible repeat apply pK); exact BK250.out⟩, ⟨bl_⟩⟩
            ·rw [if_neg c42] at H
             have c42b0 : decide (x8_1 < (l0_2.length : Int)) = false := decide_eq_false c42
             clear c42
             obtain rfl := Option.some.inj H
             go_wp2
             go_ret
             exact ⟨by first | rfl | (simp [errW_none, errW_some] <;> rfl) | (simp [*, errW_none, errW_some] <;> rfl), bl_⟩

end Go.Proofs.YtapcfcagjlmgjaaDoor.P
