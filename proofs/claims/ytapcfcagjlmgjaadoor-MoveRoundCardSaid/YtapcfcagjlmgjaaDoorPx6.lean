/- The functions of the seat's laws as plain Lean functions, and that Go's code comes to just their answers. Written by pp.py (wip/tools), a program of this session, on the kit's print. -/
import Derived.Test.YtapcfcagjlmgjaaDoorPx0
import Derived.Test.YtapcfcagjlmgjaaDoorPx1
import Derived.Test.YtapcfcagjlmgjaaDoorPx3
import Derived.Test.YtapcfcagjlmgjaaDoorPx5
namespace Go.Proofs.YtapcfcagjlmgjaaDoor.P
open Go.RowKit Go.Proofs.YtapcfcagjlmgjaaDoorW.PrintWords Go.Proofs.YtapcfcagjlmgjaaDoorW.PrintLast Go.Proofs.YtapcfcagjlmgjaaDoorW.PrintMore
attribute [local go_sem] max2_int min2_int max_two min_two max_three min_three max_four min_four   -- for this text's walks alone
attribute [local go_sem] Instr.field asAgg
set_option linter.unusedVariables false
set_option linter.unusedSimpArgs false

attribute [local go_sem high] eqA42
/-! ### move_to: function 20 -/
def move_to.f (k : Nat) (a0_0 : Int) (a0_1 : Int) (l0_2 : List (S44)) (a0_3 : Int) (a0_4 : Bool) (a0_5 : Bool) (a1 : Int) : Option (Int) := if a1 = 4 then ((grid_On.f a0_0 a0_1 l0_2 a0_3 a0_4 a0_5 a0_3 (wrap64 (-a0_1))).bind fun t139 => (some t139)) else (if a1 = 2 then ((grid_On.f a0_0 a0_1 l0_2 a0_3 a0_4 a0_5 a0_3 (-1)).bind fun t140 => (some t140)) else (if a1 = 5 then ((grid_On.f a0_0 a0_1 l0_2 a0_3 a0_4 a0_5 a0_3 a0_1).bind fun t141 => (some t141)) else (if a1 = 3 then ((grid_On.f a0_0 a0_1 l0_2 a0_3 a0_4 a0_5 a0_3 1).bind fun t142 => (some t142)) else (if a1 = 7 then ((field_Prev.f a0_0 a0_1 l0_2 a0_3 a0_4 a0_5 a0_3).bind fun t146 => (some (mx 0 t146))) else (if a1 = 6 then ((field_Next.f a0_0 a0_1 l0_2 a0_3 a0_4 a0_5 a0_3).bind fun t143 => (some (mx 0 t143))) else (if a1 = 8 then ((field_Next.f a0_0 a0_1 l0_2 a0_3 a0_4 a0_5 (wrap64 ((l0_2.length : Int) - 1))).bind fun t144 => (some (mx 0 t144))) else ((move_line.f k a0_0 a0_1 l0_2 a0_3 a0_4 a0_5).bind fun t145 => (some t145))))))))
theorem move_to.mono : ∀ a0 a1 a2 a3 a4 a5 a6 k, LeO (move_to.f k a0 a1 a2 a3 a4 a5 a6) (move_to.f (k + 1) a0 a1 a2 a3 a4 a5 a6) := by
 intro a0 a1 a2 a3 a4 a5 a6 k
 unfold move_to.f
 repeat' first
   | (with_reducible exact move_line.mono _ _ _ _ _ _ _)
   | (with_reducible exact LeO.refl _)
   | (with_reducible exact LeO.none _)
   | (with_reducible refine LeO.ite ?_ ?_)
   | (with_reducible refine LeO.bind ?_ (fun _ => ?_))
   | exact move_line.mono _ _ _ _ _ _ _
   | exact LeO.none _
   | refine LeO.ite ?_ ?_
   | refine LeO.bind ?_ (fun _ => ?_)
set_option maxHeartbeats 8000000 in
set_option maxRecDepth 100000 in
theorem move_to.calls (k : Nat) (a0_0 : Int) (a0_1 : Int) (A0_2 : Option Addr) (c0_2 : Nat) (l0_2 : List (S44)) (a0_3 : Int) (a0_4 : Bool) (a0_5 : Bool) (a1 : Int) (r : Int) (w : World) (hr0_2 : Kd.C k44 w A0_2 l0_2.length l0_2) (hc0_2 : l0_2.length ≤ c0_2) (h : move_to.f k a0_0 a0_1 l0_2 a0_3 a0_4 a0_5 a1 = some r) :
  Calls Tryd.prog 20 #[.agg #[.int .i64 a0_0, .int .i64 a0_1, .slice A0_2 l0_2.length c0_2, .int .i64 a0_3, .bool a0_4, .bool a0_5], .int .i64 a1] w fun e w' => e = .returned (.int .i64 r) ∧ Below w.heap.size w w' := by
 have hu24 := Tryd.underlying24
 have HR0_2 := Aside0.mk hr0_2
 have HC0_2 := Aside0.mk hc0_2
 clear hr0_2 hc0_2
 have HB := Aside0.mk (Below.refl w.heap.size w)
 have H : (if a1 = 4 then ((grid_On.f a0_0 a0_1 l0_2 a0_3 a0_4 a0_5 a0_3 (wrap64 (-a0_1))).bind fun t139 => (some t139)) else (if a1 = 2 then ((grid_On.f a0_0 a0_1 l0_2 a0_3 a0_4 a0_5 a0_3 (-1)).bind fun t140 => (some t140)) else (if a1 = 5 then ((grid_On.f a0_0 a0_1 l0_2 a0_3 a0_4 a0_5 a0_3 a0_1).bind fun t141 => (some t141)) else (if a1 = 3 then ((grid_On.f a0_0 a0_1 l0_2 a0_3 a0_4 a0_5 a0_3 1).bind fun t142 => (some t142)) else (if a1 = 7 then ((field_Prev.f a0_0 a0_1 l0_2 a0_3 a0_4 a0_5 a0_3).bind fun t146 => (some (mx 0 t146))) else (if a1 = 6 then ((field_Next.f a0_0 a0_1 l0_2 a0_3 a0_4 a0_5 a0_3).bind fun t143 => (some (mx 0 t143))) else (if a1 = 8 then ((field_Next.f a0_0 a0_1 l0_2 a0_3 a0_4 a0_5 (wrap64 ((l0_2.length : Int) - 1))).bind fun t144 => (some (mx 0 t144))) else ((move_line.f k a0_0 a0_1 l0_2 a0_3 a0_4 a0_5).bind fun t145 => (some t145))))))))) = some r := h
 clear h
 by_cases c3 : a1 = 4
 ·rw [if_pos c3] at H
  have c3b0 : (a1 == 4) = true := beq_iff_eq.mpr c3
  have c3b1 : (a1 != 4) = false := bne_eq_false_iff_eq.mpr c3
  clear c3
  replace H := Option.bind_eq_some_iff.mp H
  obtain ⟨t139, A40, H⟩ := H
  replace H : (some t139) = some r := H
  have A4 := Aside0.mk A40
  clear A40
  obtain rfl := Option.some.inj H
  go_enter Tryd.func20, Tryd.ntmps20
  go_wp2_with (first | ((with_reducible refine gate_dst (N := 2) rfl ?_); refine box_event ?hg (N := 2) ?hd (cs := #[.int .i64 a0_0, .int .i64 a0_1, .slice A0_2 l0_2.length c0_2, .int .i64 a0_3, .bool a0_4, .bool a0_5]) (t := 24) ?hr ?_; (case hd => rfl); (case hg => rfl); (case hr => first | (go_simp; done) | (go_simp; rfl)); intro gb138 hg w5 hbox hb; have n0_ := Aside0.mk (below_step bl_ hb); have n1_ := Aside0.mk (hbox); have n2_ := Aside0.mk ((le_new hg (below_size bl_) : w.heap.size ≤ gb138)); have n3_ := Aside0.mk ((le_new hg (below_size bl_) : w.heap.size ≤ gb138)); clear HB; have HB := n0_; have BK138 := n1_; have GW138 := n2_; have GE138 := n3_; clear n0_ n1_ n2_ n3_; clear hb hbox hg; obtain ⟨hcz6_0, hcz6_1, hcz6_2, hcz6_3, hcz6_4, hcz6_5, hfz6_0, hfz6_1, hfz6_2, hfz6_3, hfz6_4, hfz6_5⟩ := cells6 (show w5.heap[gb138]? = some (.cells #[.int .i64 a0_0, .int .i64 a0_1, .slice A0_2 l0_2.length c0_2, .int .i64 a0_3, .bool a0_4, .bool a0_5] _ (0, 0)) from BK138.out)) | ((with_reducible refine gate_callee (f := 29) rfl ?_); refine goesL_ (some 28) rfl rfl Tryd.func29 (by kernel_rfl) rfl #[.agg #[.int .i64 a0_0, .int .i64 a0_1, .slice A0_2 l0_2.length c0_2, .int .i64 a0_3, .bool a0_4, .bool a0_5], .int .i64 a0_3, .int .i64 (wrap64 (-a0_1))] rfl ag_ ?_; (with_reducible refine (grid_On.calls a0_0 a0_1 _ _ l0_2 a0_3 a0_4 a0_5 a0_3 (wrap64 (-a0_1)) t139 _ ?side1 ?side2 A4.out).mono ?_); (case side1 => repeat (first | exact (Kd.C_below HR0_2.out HB.out) | (with_reducible apply pC))); (case side2 => exact HC0_2.out); rintro e w7 ⟨rfl, hb⟩; refine ⟨_, rfl, ?_⟩; have n0_ := Aside0.mk (blk_below (g := gb138) (o := .cells #[.int .i64 a0_0, .int .i64 a0_1, .slice A0_2 l0_2.length c0_2, .int .i64 a0_3, .bool a0_4, .bool a0_5] 24 (0, 0)) (by (with_reducible repeat apply pK); exact BK138.out) hb); have n1_ := Aside0.mk (below_step bl_ hb); clear BK138; clear HB; have BK138 := n0_; have HB := n1_; clear n0_ n1_; (try clear hb); (try clear hb2); (try clear hk); (try clear hi)))
  go_ret
  exact ⟨by first | rfl | (simp [errW_none, errW_some] <;> rfl) | (simp [*, errW_none, errW_some] <;> rfl), bl_⟩
 ·rw [if_neg c3] at H
  have c3b0 : (a1 == 4) = false := beq_eq_false_iff_ne.mpr c3
  have c3b1 : (a1 != 4) = true := bne_iff_ne.mpr c3
  by_cases c8 : a1 = 2
  ·rw [if_pos c8] at H
   have c8b0 : (a1 == 2) = true := beq_iff_eq.mpr c8
   have c8b1 : (a1 != 2) = false := bne_eq_false_iff_eq.mpr c8
   clear c8
   replace H := Option.bind_eq_some_iff.mp H
   obtain ⟨t140, A90, H⟩ := H
   replace H : (some t140) = some r := H
   have A9 := Aside0.mk A90
   clear A90
   obtain rfl := Option.some.inj H
   go_enter Tryd.func20, Tryd.ntmps20
   go_wp2_with (first | ((with_reducible refine gate_dst (N := 2) rfl ?_); refine box_event ?hg (N := 2) ?hd (cs := #[.int .i64 a0_0, .int .i64 a0_1, .slice A0_2 l0_2.length c0_2, .int .i64 a0_3, .bool a0_4, .bool a0_5]) (t := 24) ?hr ?_; (case hd => rfl); (case hg => rfl); (case hr => first | (go_simp; done) | (go_simp; rfl)); intro gb138 hg w10 hbox hb; have n0_ := Aside0.mk (below_step bl_ hb); have n1_ := Aside0.mk (hbox); have n2_ := Aside0.mk ((le_new hg (below_size bl_) : w.heap.size ≤ gb138)); have n3_ := Aside0.mk ((le_new hg (below_size bl_) : w.heap.size ≤ gb138)); clear HB; have HB := n0_; have BK138 := n1_; have GW138 := n2_; have GE138 := n3_; clear n0_ n1_ n2_ n3_; clear hb hbox hg; obtain ⟨hcz11_0, hcz11_1, hcz11_2, hcz11_3, hcz11_4, hcz11_5, hfz11_0, hfz11_1, hfz11_2, hfz11_3, hfz11_4, hfz11_5⟩ := cells6 (show w10.heap[gb138]? = some (.cells #[.int .i64 a0_0, .int .i64 a0_1, .slice A0_2 l0_2.length c0_2, .int .i64 a0_3, .bool a0_4, .bool a0_5] _ (0, 0)) from BK138.out)) | ((with_reducible refine gate_callee (f := 29) rfl ?_); refine goesL_ (some 28) rfl rfl Tryd.func29 (by kernel_rfl) rfl #[.agg #[.int .i64 a0_0, .int .i64 a0_1, .slice A0_2 l0_2.length c0_2, .int .i64 a0_3, .bool a0_4, .bool a0_5], .int .i64 a0_3, .int .i64 (-1)] rfl ag_ ?_; (with_reducible refine (grid_On.calls a0_0 a0_1 _ _ l0_2 a0_3 a0_4 a0_5 a0_3 (-1) t140 _ ?side1 ?side2 A9.out).mono ?_); (case side1 => repeat (first | exact (Kd.C_below HR0_2.out HB.out) | (with_reducible apply pC))); (case side2 => exact HC0_2.out); rintro e w12 ⟨rfl, hb⟩; refine ⟨_, rfl, ?_⟩; have n0_ := Aside0.mk (blk_below (g := gb138) (o := .cells #[.int .i64 a0_0, .int .i64 a0_1, .slice A0_2 l0_2.length c0_2, .int .i64 a0_3, .bool a0_4, .bool a0_5] 24 (0, 0)) (by (with_reducible repeat apply pK); exact BK138.out) hb); have n1_ := Aside0.mk (below_step bl_ hb); clear BK138; clear HB; have BK138 := n0_; have HB := n1_; clear n0_ n1_; (try clear hb); (try clear hb2); (try clear hk); (try clear hi)))
   go_ret
   exact ⟨by first | rfl | (simp [errW_none, errW_some] <;> rfl) | (simp [*, errW_none, errW_some] <;> rfl), bl_⟩
  ·rw [if_neg c8] at H
   have c8b0 : (a1 == 2) = false := beq_eq_false_iff_ne.mpr c8
   have c8b1 : (a1 != 2) = true := bne_iff_ne.mpr c8
   by_cases c13 : a1 = 5
   ·rw [if_pos c13] at H
    have c13b0 : (a1 == 5) = true := beq_iff_eq.mpr c13
    have c13b1 : (a1 != 5) = false := bne_eq_false_iff_eq.mpr c13
    clear c13
    replace H := Option.bind_eq_some_iff.mp H
    obtain ⟨t141, A140, H⟩ := H
    replace H : (some t141) = some r := H
    have A14 := Aside0.mk A140
    clear A140
    obtain rfl := Option.some.inj H
    go_enter Tryd.func20, Tryd.ntmps20
    go_wp2_with (first | ((with_reducible refine gate_dst (N := 2) rfl ?_); refine box_event ?hg (N := 2) ?hd (cs := #[.int .i64 a0_0, .int .i64 a0_1, .slice A0_2 l0_2.length c0_2, .int .i64 a0_3, .bool a0_4, .bool a0_5]) (t := 24) ?hr ?_; (case hd => rfl); (case hg => rfl); (case hr => first | (go_simp; done) | (go_simp; rfl)); intro gb138 hg w15 hbox hb; have n0_ := Aside0.mk (below_step bl_ hb); have n1_ := Aside0.mk (hbox); have n2_ := Aside0.mk ((le_new hg (below_size bl_) : w.heap.size ≤ gb138)); have n3_ := Aside0.mk ((le_new hg (below_size bl_) : w.heap.size ≤ gb138)); clear HB; have HB := n0_; have BK138 := n1_; have GW138 := n2_; have GE138 := n3_; clear n0_ n1_ n2_ n3_; clear hb hbox hg; obtain ⟨hcz16_0, hcz16_1, hcz16_2, hcz16_3, hcz16_4, hcz16_5, hfz16_0, hfz16_1, hfz16_2, hfz16_3, hfz16_4, hfz16_5⟩ := cells6 (show w15.heap[gb138]? = some (.cells #[.int .i64 a0_0, .int .i64 a0_1, .slice A0_2 l0_2.length c0_2, .int .i64 a0_3, .bool a0_4, .bool a0_5] _ (0, 0)) from BK138.out)) | ((with_reducible refine gate_callee (f := 29) rfl ?_); refine goesL_ (some 35) rfl rfl Tryd.func29 (by kernel_rfl) rfl #[.agg #[.int .i64 a0_0, .int .i64 a0_1, .slice A0_2 l0_2.length c0_2, .int .i64 a0_3, .bool a0_4, .bool a0_5], .int .i64 a0_3, .int .i64 a0_1] rfl ag_ ?_; (with_reducible refine (grid_On.calls a0_0 a0_1 _ _ l0_2 a0_3 a0_4 a0_5 a0_3 a0_1 t141 _ ?side1 ?side2 A14.out).mono ?_); (case side1 => repeat (first | exact (Kd.C_below HR0_2.out HB.out) | (with_reducible apply pC))); (case side2 => exact HC0_2.out); rintro e w17 ⟨rfl, hb⟩; refine ⟨_, rfl, ?_⟩; have n0_ := Aside0.mk (blk_below (g := gb138) (o := .cells #[.int .i64 a0_0, .int .i64 a0_1, .slice A0_2 l0_2.length c0_2, .int .i64 a0_3, .bool a0_4, .bool a0_5] 24 (0, 0)) (by (with_reducible repeat apply pK); exact BK138.out) hb); have n1_ := Aside0.mk (below_step bl_ hb); clear BK138; clear HB; have BK138 := n0_; have HB := n1_; clear n0_ n1_; (try clear hb); (try clear hb2); (try clear hk); (try clear hi)))
    go_ret
    exact ⟨by first | rfl | (simp [errW_none, errW_some] <;> rfl) | (simp [*, errW_none, errW_some] <;> rfl), bl_⟩
   ·rw [if_neg c13] at H
    have c13b0 : (a1 == 5) = false := beq_eq_false_iff_ne.mpr c13
    have c13b1 : (a1 != 5) = true := bne_iff_ne.mpr c13
    by_cases c18 : a1 = 3
    ·rw [if_pos c18] at H
     have c18b0 : (a1 == 3) = true := beq_iff_eq.mpr c18
     have c18b1 : (a1 != 3) = false := bne_eq_false_iff_eq.mpr c18
     clear c18
     replace H := Option.bind_eq_some_iff.mp H
     obtain ⟨t142, A190, H⟩ := H
     replace H : (some t142) = some r := H
     have A19 := Aside0.mk A190
     clear A190
     obtain rfl := Option.some.inj H
     go_enter Tryd.func20, Tryd.ntmps20
     go_wp2_with (first | ((with_reducible refine gate_dst (N := 2) rfl ?_); refine box_event ?hg (N := 2) ?hd (cs := #[.int .i64 a0_0, .int .i64 a0_1, .slice A0_2 l0_2.length c0_2, .int .i64 a0_3, .bool a0_4, .bool a0_5]) (t := 24) ?hr ?_; (case hd => rfl); (case hg => rfl); (case hr => first | (go_simp; done) | (go_simp; rfl)); intro gb138 hg w20 hbox hb; have n0_ := Aside0.mk (below_step bl_ hb); have n1_ := Aside0.mk (hbox); have n2_ := Aside0.mk ((le_new hg (below_size bl_) : w.heap.size ≤ gb138)); have n3_ := Aside0.mk ((le_new hg (below_size bl_) : w.heap.size ≤ gb138)); clear HB; have HB := n0_; have BK138 := n1_; have GW138 := n2_; have GE138 := n3_; clear n0_ n1_ n2_ n3_; clear hb hbox hg; obtain ⟨hcz21_0, hcz21_1, hcz21_2, hcz21_3, hcz21_4, hcz21_5, hfz21_0, hfz21_1, hfz21_2, hfz21_3, hfz21_4, hfz21_5⟩ := cells6 (show w20.heap[gb138]? = some (.cells #[.int .i64 a0_0, .int .i64 a0_1, .slice A0_2 l0_2.length c0_2, .int .i64 a0_3, .bool a0_4, .bool a0_5] _ (0, 0)) from BK138.out)) | ((with_reducible refine gate_callee (f := 29) rfl ?_); refine goesL_ (some 35) rfl rfl Tryd.func29 (by kernel_rfl) rfl #[.agg #[.int .i64 a0_0, .int .i64 a0_1, .slice A0_2 l0_2.length c0_2, .int .i64 a0_3, .bool a0_4, .bool a0_5], .int .i64 a0_3, .int .i64 1] rfl ag_ ?_; (with_reducible refine (grid_On.calls a0_0 a0_1 _ _ l0_2 a0_3 a0_4 a0_5 a0_3 1 t142 _ ?side1 ?side2 A19.out).mono ?_); (case side1 => repeat (first | exact (Kd.C_below HR0_2.out HB.out) | (with_reducible apply pC))); (case side2 => exact HC0_2.out); rintro e w22 ⟨rfl, hb⟩; refine ⟨_, rfl, ?_⟩; have n0_ := Aside0.mk (blk_below (g := gb138) (o := .cells #[.int .i64 a0_0, .int .i64 a0_1, .slice A0_2 l0_2.length c0_2, .int .i64 a0_3, .bool a0_4, .bool a0_5] 24 (0, 0)) (by (with_reducible repeat apply pK); exact BK138.out) hb); have n1_ := Aside0.mk (below_step bl_ hb); clear BK138; clear HB; have BK138 := n0_; have HB := n1_; clear n0_ n1_; (try clear hb); (try clear hb2); (try clear hk); (try clear hi)))
     go_ret
     exact ⟨by first | rfl | (simp [errW_none, errW_some] <;> rfl) | (simp [*, errW_none, errW_some] <;> rfl), bl_⟩
    ·rw [if_neg c18] at H
     have c18b0 : (a1 == 3) = false := beq_eq_false_iff_ne.mpr c18
     have c18b1 : (a1 != 3) = true := bne_iff_ne.mpr c18
     by_cases c23 : a1 = 7
     ·rw [if_pos c23] at H
      have c23b0 : (a1 == 7) = true := beq_iff_eq.mpr c23
      have c23b1 : (a1 != 7) = false := bne_eq_false_iff_eq.mpr c23
      clear c23
      replace H := Option.bind_eq_some_iff.mp H
      obtain ⟨t146, A240, H⟩ := H
      replace H : (some (mx 0 t146)) = some r := H
      have A24 := Aside0.mk A240
      clear A240
      obtain ⟨ji25, hji25⟩ : ∃ j_ : Int, (mx 0 t146) = j_ := ⟨_, rfl⟩
      replace H : (some ji25) = some r := by first | (rw [hji25] at H; exact H) | (simp only [hji25] at H ⊢; exact H)
      (try rw [hji25] at A24)
      (try (have hji25l : 0 ≤ ji25 := by (rw [← hji25]; unfold mx; (repeat' split) <;> omega)))
      (try (have hji25m : 0 ≤ ji25 := by omega))
      have hji25_ : (if 0 < t146 then t146 else 0) = ji25 := hji25
      obtain rfl := Option.some.inj H
      go_enter Tryd.func20, Tryd.ntmps20
      go_wp2_with (first | ((with_reducible refine gate_dst (N := 2) rfl ?_); refine box_event ?hg (N := 2) ?hd (cs := #[.int .i64 a0_0, .int .i64 a0_1, .slice A0_2 l0_2.length c0_2, .int .i64 a0_3, .bool a0_4, .bool a0_5]) (t := 24) ?hr ?_; (case hd => rfl); (case hg => rfl); (case hr => first | (go_simp; done) | (go_simp; rfl)); intro gb138 hg w26 hbox hb; have n0_ := Aside0.mk (below_step bl_ hb); have n1_ := Aside0.mk (hbox); have n2_ := Aside0.mk ((le_new hg (below_size bl_) : w.heap.size ≤ gb138)); have n3_ := Aside0.mk ((le_new hg (below_size bl_) : w.heap.size ≤ gb138)); clear HB; have HB := n0_; have BK138 := n1_; have GW138 := n2_; have GE138 := n3_; clear n0_ n1_ n2_ n3_; clear hb hbox hg; obtain ⟨hcz27_0, hcz27_1, hcz27_2, hcz27_3, hcz27_4, hcz27_5, hfz27_0, hfz27_1, hfz27_2, hfz27_3, hfz27_4, hfz27_5⟩ := cells6 (show w26.heap[gb138]? = some (.cells #[.int .i64 a0_0, .int .i64 a0_1, .slice A0_2 l0_2.length c0_2, .int .i64 a0_3, .bool a0_4, .bool a0_5] _ (0, 0)) from BK138.out)) | ((with_reducible refine gate_callee (f := 30) rfl ?_); refine goesL_ (some 39) rfl rfl Tryd.func30 (by kernel_rfl) rfl #[.agg #[.int .i64 a0_0, .int .i64 a0_1, .slice A0_2 l0_2.length c0_2, .int .i64 a0_3, .bool a0_4, .bool a0_5], .int .i64 a0_3] rfl ag_ ?_; (with_reducible refine (field_Prev.calls a0_0 a0_1 _ _ l0_2 a0_3 a0_4 a0_5 a0_3 t146 _ ?side1 ?side2 A24.out).mono ?_); (case side1 => repeat (first | exact (Kd.C_below HR0_2.out HB.out) | (with_reducible apply pC))); (case side2 => exact HC0_2.out); rintro e w28 ⟨rfl, hb⟩; refine ⟨_, rfl, ?_⟩; have n0_ := Aside0.mk (blk_below (g := gb138) (o := .cells #[.int .i64 a0_0, .int .i64 a0_1, .slice A0_2 l0_2.length c0_2, .int .i64 a0_3, .bool a0_4, .bool a0_5] 24 (0, 0)) (by (with_reducible repeat apply pK); exact BK138.out) hb); have n1_ := Aside0.mk (below_step bl_ hb); clear BK138; clear HB; have BK138 := n0_; have HB := n1_; clear n0_ n1_; (try clear hb); (try clear hb2); (try clear hk); (try clear hi)))
      go_ret
      exact ⟨by first | rfl | (simp [errW_none, errW_some] <;> rfl) | (simp only [← hji25]; first | rfl | (simp [errW_none, errW_some] <;> rfl)) | (simp [*, errW_none, errW_some] <;> rfl), bl_⟩
     ·rw [if_neg c23] at H
      have c23b0 : (a1 == 7) = false := beq_eq_false_iff_ne.mpr c23
      have c23b1 : (a1 != 7) = true := bne_iff_ne.mpr c23
      by_cases c29 : a1 = 6
      ·rw [if_pos c29] at H
       have c29b0 : (a1 == 6) = true := beq_iff_eq.mpr c29
       have c29b1 : (a1 != 6) = false := bne_eq_false_iff_eq.mpr c29
       clear c29
       replace H := Option.bind_eq_some_iff.mp H
       obtain ⟨t143, A300, H⟩ := H
       replace H : (some (mx 0 t143)) = some r := H
       have A30 := Aside0.mk A300
       clear A300
       obtain ⟨ji31, hji31⟩ : ∃ j_ : Int, (mx 0 t143) = j_ := ⟨_, rfl⟩
       replace H : (some ji31) = some r := by first | (rw [hji31] at H; exact H) | (simp only [hji31] at H ⊢; exact H)
       (try rw [hji31] at A30)
       (try (have hji31l : 0 ≤ ji31 := by (rw [← hji31]; unfold mx; (repeat' split) <;> omega)))
       (try (have hji31m : 0 ≤ ji31 := by omega))
       have hji31_ : (if 0 < t143 then t143 else 0) = ji31 := hji31
       obtain rfl := Option.some.inj H
       go_enter Tryd.func20, Tryd.ntmps20
       go_wp2_with (first | ((with_reducible refine gate_dst (N := 2) rfl ?_); refine box_event ?hg (N := 2) ?hd (cs := #[.int .i64 a0_0, .int .i64 a0_1, .slice A0_2 l0_2.length c0_2, .int .i64 a0_3, .bool a0_4, .bool a0_5]) (t := 24) ?hr ?_; (case hd => rfl); (case hg => rfl); (case hr => first | (go_simp; done) | (go_simp; rfl)); intro gb138 hg w32 hbox hb; have n0_ := Aside0.mk (below_step bl_ hb); have n1_ := Aside0.mk (hbox); have n2_ := Aside0.mk ((le_new hg (below_size bl_) : w.heap.size ≤ gb138)); have n3_ := Aside0.mk ((le_new hg (below_size bl_) : w.heap.size ≤ gb138)); clear HB; have HB := n0_; have BK138 := n1_; have GW138 := n2_; have GE138 := n3_; clear n0_ n1_ n2_ n3_; clear hb hbox hg; obtain ⟨hcz33_0, hcz33_1, hcz33_2, hcz33_3, hcz33_4, hcz33_5, hfz33_0, hfz33_1, hfz33_2, hfz33_3, hfz33_4, hfz33_5⟩ := cells6 (show w32.heap[gb138]? = some (.cells #[.int .i64 a0_0, .int .i64 a0_1, .slice A0_2 l0_2.length c0_2, .int .i64 a0_3, .bool a0_4, .bool a0_5] _ (0, 0)) from BK138.out)) | ((with_reducible refine gate_callee (f := 31) rfl ?_); refine goesL_ (some 44) rfl rfl Tryd.func31 (by kernel_rfl) rfl #[.agg #[.int .i64 a0_0, .int .i64 a0_1, .slice A0_2 l0_2.length c0_2, .int .i64 a0_3, .bool a0_4, .bool a0_5], .int .i64 a0_3] rfl ag_ ?_; (with_reducible refine (field_Next.calls a0_0 a0_1 _ _ l0_2 a0_3 a0_4 a0_5 a0_3 t143 _ ?side1 ?side2 A30.out).mono ?_); (case side1 => repeat (first | exact (Kd.C_below HR0_2.out HB.out) | (with_reducible apply pC))); (case side2 => exact HC0_2.out); rintro e w34 ⟨rfl, hb⟩; refine ⟨_, rfl, ?_⟩; have n0_ := Aside0.mk (blk_below (g := gb138) (o := .cells #[.int .i64 a0_0, .int .i64 a0_1, .slice A0_2 l0_2.length c0_2, .int .i64 a0_3, .bool a0_4, .bool a0_5] 24 (0, 0)) (by (with_reducible repeat apply pK); exact BK138.out) hb); have n1_ := Aside0.mk (below_step bl_ hb); clear BK138; clear HB; have BK138 := n0_; have HB := n1_; clear n0_ n1_; (try clear hb); (try clear hb2); (try clear hk); (try clear hi)))
       go_ret
       exact ⟨by first | rfl | (simp [errW_none, errW_some] <;> rfl) | (simp only [← hji31]; first | rfl | (simp [errW_none, errW_some] <;> rfl)) | (simp [*, errW_none, errW_some] <;> rfl), bl_⟩
      ·rw [if_neg c29] at H
       have c29b0 : (a1 == 6) = false := beq_eq_false_iff_ne.mpr c29
       have c29b1 : (a1 != 6) = true := bne_iff_ne.mpr c29
       by_cases c35 : a1 = 8
       ·rw [if_pos c35] at H
        have c35b0 : (a1 == 8) = true := beq_iff_eq.mpr c35
        have c35b1 : (a1 != 8) = false := bne_eq_false_iff_eq.mpr c35
        clear c35
        replace H := Option.bind_eq_some_iff.mp H
        obtain ⟨t144, A360, H⟩ := H
        replace H : (some (mx 0 t144)) = some r := H
        have A36 := Aside0.mk A360
        clear A360
        obtain ⟨ji37, hji37⟩ : ∃ j_ : Int, (mx 0 t144) = j_ := ⟨_, rfl⟩
        replace H : (some ji37) = some r := by first | (rw [hji37] at H; exact H) | (simp only [hji37] at H ⊢; exact H)
        (try rw [hji37] at A36)
        (try (have hji37l : 0 ≤ ji37 := by (rw [← hji37]; unfold mx; (repeat' split) <;> omega)))
        (try (have hji37m : 0 ≤ ji37 := by omega))
        have hji37_ : (if 0 < t144 then t144 else 0) = ji37 := hji37
        obtain rfl := Option.some.inj H
        go_enter Tryd.func20, Tryd.ntmps20
        go_wp2_with (first | ((with_reducible refine gate_dst (N := 2) rfl ?_); refine box_event ?hg (N := 2) ?hd (cs := #[.int .i64 a0_0, .int .i64 a0_1, .slice A0_2 l0_2.length c0_2, .int .i64 a0_3, .bool a0_4, .bool a0_5]) (t := 24) ?hr ?_; (case hd => rfl); (case hg => rfl); (case hr => first | (go_simp; done) | (go_simp; rfl)); intro gb138 hg w38 hbox hb; have n0_ := Aside0.mk (below_step bl_ hb); have n1_ := Aside0.mk (hbox); have n2_ := Aside0.mk ((le_new hg (below_size bl_) : w.heap.size ≤ gb138)); have n3_ := Aside0.mk ((le_new hg (below_size bl_) : w.heap.size ≤ gb138)); clear HB; have HB := n0_; have BK138 := n1_; have GW138 := n2_; have GE138 := n3_; clear n0_ n1_ n2_ n3_; clear hb hbox hg; obtain ⟨hcz39_0, hcz39_1, hcz39_2, hcz39_3, hcz39_4, hcz39_5, hfz39_0, hfz39_1, hfz39_2, hfz39_3, hfz39_4, hfz39_5⟩ := cells6 (show w38.heap[gb138]? = some (.cells #[.int .i64 a0_0, .int .i64 a0_1, .slice A0_2 l0_2.length c0_2, .int .i64 a0_3, .bool a0_4, .bool a0_5] _ (0, 0)) from BK138.out)) | ((with_reducible refine gate_callee (f := 31) rfl ?_); refine goesL_ (some 51) rfl rfl Tryd.func31 (by kernel_rfl) rfl #[.agg #[.int .i64 a0_0, .int .i64 a0_1, .slice A0_2 l0_2.length c0_2, .int .i64 a0_3, .bool a0_4, .bool a0_5], .int .i64 (wrap64 ((l0_2.length : Int) - 1))] rfl ag_ ?_; (with_reducible refine (field_Next.calls a0_0 a0_1 _ _ l0_2 a0_3 a0_4 a0_5 (wrap64 ((l0_2.length : Int) - 1)) t144 _ ?side1 ?side2 A36.out).mono ?_); (case side1 => repeat (first | exact (Kd.C_below HR0_2.out HB.out) | (with_reducible apply pC))); (case side2 => exact HC0_2.out); rintro e w40 ⟨rfl, hb⟩; refine ⟨_, rfl, ?_⟩; have n0_ := Aside0.mk (blk_below (g := gb138) (o := .cells #[.int .i64 a0_0, .int .i64 a0_1, .slice A0_2 l0_2.length c0_2, .int .i64 a0_3, .bool a0_4, .bool a0_5] 24 (0, 0)) (by (with_reducible repeat apply pK); exact BK138.out) hb); have n1_ := Aside0.mk (below_step bl_ hb); clear BK138; clear HB; have BK138 := n0_; have HB := n1_; clear n0_ n1_; (try clear hb); (try clear hb2); (try clear hk); (try clear hi)))
        go_ret
        exact ⟨by first | rfl | (simp [errW_none, errW_some] <;> rfl) | (simp only [← hji37]; first | rfl | (simp [errW_none, errW_some] <;> rfl)) | (simp [*, errW_none, errW_some] <;> rfl), bl_⟩
       ·rw [if_neg c35] at H
        have c35b0 : (a1 == 8) = false := beq_eq_false_iff_ne.mpr c35
        have c35b1 : (a1 != 8) = true := bne_iff_ne.mpr c35
        replace H := Option.bind_eq_some_iff.mp H
        obtain ⟨t145, A410, H⟩ := H
        replace H : (some t145) = some r := H
        have A41 := Aside0.mk A410
        clear A410
        obtain rfl := Option.some.inj H
        go_enter Tryd.func20, Tryd.ntmps20
        go_wp2_with (first | ((with_reducible refine gate_dst (N := 2) rfl ?_); refine box_event ?hg (N := 2) ?hd (cs := #[.int .i64 a0_0, .int .i64 a0_1, .slice A0_2 l0_2.length c0_2, .int .i64 a0_3, .bool a0_4, .bool a0_5]) (t := 24) ?hr ?_; (case hd => rfl); (case hg => rfl); (case hr => first | (go_simp; done) | (go_simp; rfl)); intro gb138 hg w42 hbox hb; have n0_ := Aside0.mk (below_step bl_ hb); have n1_ := Aside0.mk (hbox); have n2_ := Aside0.mk ((le_new hg (below_size bl_) : w.heap.size ≤ gb138)); have n3_ := Aside0.mk ((le_new hg (below_size bl_) : w.heap.size ≤ gb138)); clear HB; have HB := n0_; have BK138 := n1_; have GW138 := n2_; have GE138 := n3_; clear n0_ n1_ n2_ n3_; clear hb hbox hg; obtain ⟨hcz43_0, hcz43_1, hcz43_2, hcz43_3, hcz43_4, hcz43_5, hfz43_0, hfz43_1, hfz43_2, hfz43_3, hfz43_4, hfz43_5⟩ := cells6 (show w42.heap[gb138]? = some (.cells #[.int .i64 a0_0, .int .i64 a0_1, .slice A0_2 l0_2.length c0_2, .int .i64 a0_3, .bool a0_4, .bool a0_5] _ (0, 0)) from BK138.out)) | ((with_reducible refine gate_callee (f := 32) rfl ?_); refine goesL_ (some 54) rfl rfl Tryd.func32 (by kernel_rfl) rfl #[.agg #[.int .i64 a0_0, .int .i64 a0_1, .slice A0_2 l0_2.length c0_2, .int .i64 a0_3, .bool a0_4, .bool a0_5]] rfl ag_ ?_; (with_reducible refine (move_line.calls k a0_0 a0_1 _ _ l0_2 a0_3 a0_4 a0_5 t145 _ ?side1 ?side2 A41.out).mono ?_); (case side1 => repeat (first | exact (Kd.C_below HR0_2.out HB.out) | (with_reducible apply pC))); (case side2 => exact HC0_2.out); rintro e w44 ⟨rfl, hb⟩; refine ⟨_, rfl, ?_⟩; have n0_ := Aside0.mk (blk_below (g := gb138) (o := .cells #[.int .i64 a0_0, .int .i64 a0_1, .slice A0_2 l0_2.length c0_2, .int .i64 a0_3, .bool a0_4, .bool a0_5] 24 (0, 0)) (by (with_reducible repeat apply pK); exact BK138.out) hb); have n1_ := Aside0.mk (below_step bl_ hb); clear BK138; clear HB; have BK138 := n0_; have HB := n1_; clear n0_ n1_; (try clear hb); (try clear hb2); (try clear hk); (try clear hi)))
        go_ret
        exact ⟨by first | rfl | (simp [errW_none, errW_some] <;> rfl) | (simp [*, errW_none, errW_some] <;> rfl), bl_⟩

/-! ### move_Do: function 10 -/
def move_Do.f (k : Nat) (a0_0 : Int) (a0_1 : Int) (l0_2 : List (S44)) (a0_3 : Int) (a0_4 : Bool) (a0_5 : Bool) (a1 : Int) : Option (Int × Int × (List (S44)) × Int × Bool × Bool × Option Int) := (move_Moves.f a1).bind fun t149 => (if t149 = true then (if a0_4 = true then (some (a0_0, a0_1, l0_2, a0_3, a0_4, a0_5, some 7)) else ((grid_Copy.f a0_0 a0_1 l0_2 a0_3 a0_4 a0_5).bind fun bt150 => ((move_to.f k bt150.1 bt150.2.1 bt150.2.2.1 bt150.2.2.2.1 bt150.2.2.2.2.1 bt150.2.2.2.2.2 a1).bind fun t158 => (some (bt150.1, bt150.2.1, bt150.2.2.1, t158, bt150.2.2.2.2.1, bt150.2.2.2.2.2, none))))) else (some (a0_0, a0_1, l0_2, a0_3, a0_4, a0_5, some 1)))
theorem move_Do.mono : ∀ a0 a1 a2 a3 a4 a5 a6 k, LeO (move_Do.f k a0 a1 a2 a3 a4 a5 a6) (move_Do.f (k + 1) a0 a1 a2 a3 a4 a5 a6) := by
 intro a0 a1 a2 a3 a4 a5 a6 k
 unfold move_Do.f
 repeat' first
   | (with_reducible exact move_to.mono _ _ _ _ _ _ _ _)
   | (with_reducible exact LeO.refl _)
   | (with_reducible exact LeO.none _)
   | (with_reducible refine LeO.ite ?_ ?_)
   | (with_reducible refine LeO.bind ?_ (fun _ => ?_))
   | exact move_to.mono _ _ _ _ _ _ _ _
   | exact LeO.none _
   | refine LeO.ite ?_ ?_
   | refine LeO.bind ?_ (fun _ => ?_)
set_option maxHeartbeats 8000000 in
set_option maxRecDepth 100000 in
theorem move_Do.calls (k : Nat) (a0_0 : Int) (a0_1 : Int) (P0_2_ : Nat → Prop) (A0_2 : Option Addr) (c0_2 : Nat) (l0_2 : List (S44)) (a0_3 : Int) (a0_4 : Bool) (a0_5 : Bool) (a1 : Int) (r1 : Int) (r2 : Int) (r3 : List (S44)) (r4 : Int) (r5 : Bool) (r6 : Bool) (r7 : Option Int) (w : World) (hs0_2 : Kd.V k44 44 w w.heap.size (fun k_ => P0_2_ k_) (.slice A0_2 l0_2.length c0_2) l0_2) (h : move_Do.f k a0_0 a0_1 l0_2 a0_3 a0_4 a0_5 a1 = some (r1, r2, r3, r4, r5, r6, r7)) :
  Calls Tryd.prog 10 #[.agg #[.int .i64 a0_0, .int .i64 a0_1, .slice A0_2 l0_2.length c0_2, .int .i64 a0_3, .bool a0_4, .bool a0_5], .int .i64 a1] w fun e w' => ∃ v2_ : Value, e = .returned (.tuple #[.agg #[.int .i64 r1, .int .i64 r2, v2_, .int .i64 r4, .bool r5, .bool r6], errW r7]) ∧ Kd.V k44 44 w' w.heap.size (fun k_ => (P0_2_ k_ ∨ w.heap.size ≤ k_)) v2_ r3 ∧ Below w.heap.size w w' := by
 have hu24 := Tryd.underlying24
 have hu28 := Tryd.underlying28
 have hu47 := Tryd.underlying47
 have HO0_2 := Aside0.mk (show Kd.V k44 44 w w.heap.size (fun k_ => (P0_2_ k_ ∨ w.heap.size ≤ k_)) (.slice A0_2 l0_2.length c0_2) l0_2 from Kd.V_mono hs0_2 (fun k_ hk => .inl hk))
 have HB := Aside0.mk (Below.refl w.heap.size w)
 have H : ((move_Moves.f a1).bind fun t149 => (if t149 = true then (if a0_4 = true then (some (a0_0, a0_1, l0_2, a0_3, a0_4, a0_5, some 7)) else ((grid_Copy.f a0_0 a0_1 l0_2 a0_3 a0_4 a0_5).bind fun bt150 => ((move_to.f k bt150.1 bt150.2.1 bt150.2.2.1 bt150.2.2.2.1 bt150.2.2.2.2.1 bt150.2.2.2.2.2 a1).bind fun t158 => (some (bt150.1, bt150.2.1, bt150.2.2.1, t158, bt150.2.2.2.2.1, bt150.2.2.2.2.2, none))))) else (some (a0_0, a0_1, l0_2, a0_3, a0_4, a0_5, some 1)))) = some (r1, r2, r3, r4, r5, r6, r7) := h
 clear h
 replace H := Option.bind_eq_some_iff.mp H
 obtain ⟨t149, A30, H⟩ := H
 replace H : (if t149 = true then (if a0_4 = true then (some (a0_0, a0_1, l0_2, a0_3, a0_4, a0_5, some 7)) else ((grid_Copy.f a0_0 a0_1 l0_2 a0_3 a0_4 a0_5).bind fun bt150 => ((move_to.f k bt150.1 bt150.2.1 bt150.2.2.1 bt150.2.2.2.1 bt150.2.2.2.2.1 bt150.2.2.2.2.2 a1).bind fun t158 => (some (bt150.1, bt150.2.1, bt150.2.2.1, t158, bt150.2.2.2.2.1, bt150.2.2.2.2.2, none))))) else (some (a0_0, a0_1, l0_2, a0_3, a0_4, a0_5, some 1))) = some (r1, r2, r3, r4, r5, r6, r7) := H
 have A3 := Aside0.mk A30
 clear A30
 by_cases c4 : t149 = true
 ·subst c4
  have H1 : (if a0_4 = true then (some (a0_0, a0_1, l0_2, a0_3, a0_4, a0_5, some 7)) else ((grid_Copy.f a0_0 a0_1 l0_2 a0_3 a0_4 a0_5).bind fun bt150 => ((move_to.f k bt150.1 bt150.2.1 bt150.2.2.1 bt150.2.2.2.1 bt150.2.2.2.2.1 bt150.2.2.2.2.2 a1).bind fun t158 => (some (bt150.1, bt150.2.1, bt150.2.2.1, t158, bt150.2.2.2.2.1, bt150.2.2.2.2.2, none))))) = some (r1, r2, r3, r4, r5, r6, r7) := by rw [if_pos rfl] at H; exact H
  clear H
  have H := H1
  clear H1
  by_cases c5 : a0_4 = true
  ·subst c5
   have H1 : (some (a0_0, a0_1, l0_2, a0_3, true, a0_5, some 7)) = some (r1, r2, r3, r4, r5, r6, r7) := by rw [if_pos rfl] at H; exact H
   clear H
   have H := H1
   clear H1
   simp only [Option.some.injEq, Prod.mk.injEq] at H
   obtain ⟨rfl, rfl, rfl, rfl, rfl, rfl, rfl⟩ := H
   go_enter Tryd.func10, Tryd.ntmps10
   go_wp2_with (first | ((with_reducible refine gate_dst (N := 2) rfl ?_); refine box_event ?hg (N := 2) ?hd (cs := #[.int .i64 a0_0, .int .i64 a0_1, .slice A0_2 l0_2.length c0_2, .int .i64 a0_3, .bool true, .bool a0_5]) (t := 24) ?hr ?_; (case hd => rfl); (case hg => rfl); (case hr => first | (go_simp; done) | (go_simp; rfl)); intro gb147 hg w6 hbox hb; have n0_ := Aside0.mk (Kd.V_below (Kd.V_elderB (by (with_reducible repeat apply pV); exact HO0_2.out) gb147 (Nat.le_of_eq hg.symm)) hb); have n1_ := Aside0.mk (below_step bl_ hb); have n2_ := Aside0.mk (hbox); have n3_ := Aside0.mk ((le_new hg (below_size bl_) : w.heap.size ≤ gb147)); have n4_ := Aside0.mk ((le_new hg (below_size bl_) : w.heap.size ≤ gb147)); clear HO0_2; clear HB; have HO0_2 := n0_; have HB := n1_; have BK147 := n2_; have GW147 := n3_; have GE147 := n4_; clear n0_ n1_ n2_ n3_ n4_; clear hb hbox hg) | ((with_reducible refine gate_dst (N := 4) rfl ?_); refine box_event ?hg (N := 4) ?hd (cs := #[.int .i64 0, .int .i64 0, .slice none 0 0, .int .i64 0, .bool false, .bool false]) (t := 24) ?hr ?_; (case hd => rfl); (case hg => rfl); (case hr => first | (go_simp; done) | (go_simp; rfl)); intro gb148 hg w7 hbox hb; have n0_ := Aside0.mk (Kd.V_below (Kd.V_elderB (by (with_reducible repeat apply pV); exact HO0_2.out) gb148 (Nat.le_of_eq hg.symm)) hb); have n1_ := Aside0.mk (blk_below (g := gb147) (o := .cells #[.int .i64 a0_0, .int .i64 a0_1, .slice A0_2 l0_2.length c0_2, .int .i64 a0_3, .bool true, .bool a0_5] 24 (0, 0)) (by (with_reducible repeat apply pK); exact BK147.out) hb); have n2_ := Aside0.mk (below_step bl_ hb); have n3_ := Aside0.mk (hbox); have n4_ := Aside0.mk ((le_new hg (below_size bl_) : w.heap.size ≤ gb148)); have n5_ := Aside0.mk ((le_new hg (below_size bl_) : w.heap.size ≤ gb148)); have n6_ := Aside0.mk ((by rw [hg]; exact Nat.ne_of_lt (blk_lt (g := gb147) (o := .cells #[.int .i64 a0_0, .int .i64 a0_1, .slice A0_2 l0_2.length c0_2, .int .i64 a0_3, .bool true, .bool a0_5] 24 (0, 0)) (by (with_reducible repeat apply pK); exact BK147.out)) : gb147 ≠ gb148)); have n7_ := Aside0.mk ((by rw [hg]; exact Nat.ne_of_gt (blk_lt (g := gb147) (o := .cells #[.int .i64 a0_0, .int .i64 a0_1, .slice A0_2 l0_2.length c0_2, .int .i64 a0_3, .bool true, .bool a0_5] 24 (0, 0)) (by (with_reducible repeat apply pK); exact BK147.out)) : gb148 ≠ gb147)); clear HO0_2; clear BK147; clear HB; have HO0_2 := n0_; have BK147 := n1_; have HB := n2_; have BK148 := n3_; have GW148 := n4_; have GE148 := n5_; have NB147_148 := n6_; have NB148_147 := n7_; clear n0_ n1_ n2_ n3_ n4_ n5_ n6_ n7_; clear hb hbox hg) | ((with_reducible refine gate_callee (f := 14) rfl ?_); refine goesL_ (some 8) rfl rfl Tryd.func14 (by kernel_rfl) rfl #[.int .i64 a1] rfl ag_ ?_; (with_reducible refine (move_Moves.calls a1 true _ A3.out).mono ?_); rintro e w' ⟨rfl, ⟨nd, rfl⟩⟩; refine ⟨_, rfl, ?_⟩; (try (rw [drewN_self w7]; generalize hq_ : World.drewN w7 _ = w7; have n0_ : Aside0 (Kd.V k44 44 w7 w.heap.size (fun k_ => ((((P0_2_ k_ ∨ w.heap.size ≤ k_)) ∧ k_ ≠ gb147) ∧ k_ ≠ gb148)) (.slice A0_2 l0_2.length c0_2) l0_2) := ⟨by rw [← hq_]; exact (by (with_reducible repeat apply pV); exact HO0_2.out)⟩; have n1_ : Aside0 (w7.heap[gb147]? = some (.cells #[.int .i64 a0_0, .int .i64 a0_1, .slice A0_2 l0_2.length c0_2, .int .i64 a0_3, .bool true, .bool a0_5] 24 (0, 0))) := ⟨by rw [← hq_]; exact (by (with_reducible repeat apply pK); exact BK147.out)⟩; have n2_ : Aside0 (w7.heap[gb148]? = some (.cells #[.int .i64 0, .int .i64 0, .slice none 0 0, .int .i64 0, .bool false, .bool false] 24 (0, 0))) := ⟨by rw [← hq_]; exact (by (with_reducible repeat apply pK); exact BK148.out)⟩; have n3_ : Aside0 (Below w.heap.size w w7) := ⟨by rw [← hq_]; exact bl_⟩; clear HO0_2 BK147 BK148 HB hq_; have HO0_2 := n0_; have BK147 := n1_; have BK148 := n2_; have HB := n3_; clear n0_ n1_ n2_ n3_)); have hnb8 := NB147_148.out; have hnc8 := NB148_147.out; obtain ⟨hcz9_0, hcz9_1, hcz9_2, hcz9_3, hcz9_4, hcz9_5, hfz9_0, hfz9_1, hfz9_2, hfz9_3, hfz9_4, hfz9_5⟩ := cells6 (show w7.heap[gb147]? = some (.cells #[.int .i64 a0_0, .int .i64 a0_1, .slice A0_2 l0_2.length c0_2, .int .i64 a0_3, .bool true, .bool a0_5] _ (0, 0)) from BK147.out); obtain ⟨hcz10_0, hcz10_1, hcz10_2, hcz10_3, hcz10_4, hcz10_5, hfz10_0, hfz10_1, hfz10_2, hfz10_3, hfz10_4, hfz10_5⟩ := cells6 (show w7.heap[gb148]? = some (.cells #[.int .i64 0, .int .i64 0, .slice none 0 0, .int .i64 0, .bool false, .bool false] _ (0, 0)) from BK148.out)))
   refine bodyPost_ret (results_ct rfl _ _ gb148 24 #[.int .i64 a0_0, .int .i64 a0_1, .slice A0_2 l0_2.length c0_2, .int .i64 a0_3, .bool true, .bool a0_5] (0, 0) _ rfl (by (with_reducible repeat apply pK); refine blk_put (cs := #[.int .i64 a0_0, .int .i64 a0_1, .slice A0_2 l0_2.length c0_2, .int .i64 a0_3, .bool true, .bool false]) ?_ 5 _ rfl; (with_reducible repeat apply pK); refine blk_put (cs := #[.int .i64 a0_0, .int .i64 a0_1, .slice A0_2 l0_2.length c0_2, .int .i64 a0_3, .bool false, .bool false]) ?_ 4 _ rfl; (with_reducible repeat apply pK); refine blk_put (cs := #[.int .i64 a0_0, .int .i64 a0_1, .slice A0_2 l0_2.length c0_2, .int .i64 0, .bool false, .bool false]) ?_ 3 _ rfl; (with_reducible repeat apply pK); refine blk_put (cs := #[.int .i64 a0_0, .int .i64 a0_1, .slice none 0 0, .int .i64 0, .bool false, .bool false]) ?_ 2 _ rfl; (with_reducible repeat apply pK); refine blk_put (cs := #[.int .i64 a0_0, .int .i64 0, .slice none 0 0, .int .i64 0, .bool false, .bool false]) ?_ 1 _ rfl; (with_reducible repeat apply pK); refine blk_put (cs := #[.int .i64 0, .int .i64 0, .slice none 0 0, .int .i64 0, .bool false, .bool false]) ?_ 0 _ rfl; (with_reducible repeat apply pK); exact BK148.out) Tryd.underlying24 rfl (by kernel_rfl)) rfl ?_
   exact ⟨_, by first | rfl | (simp [errW_none, errW_some] <;> rfl) | (simp [*, errW_none, errW_some] <;> rfl), by (with_reducible repeat apply pV); exact Kd.V_mono (Kd.V_far (p := ⟨gb148, 5, none⟩) (Kd.V_far (p := ⟨gb148, 4, none⟩) (Kd.V_far (p := ⟨gb148, 3, none⟩) (Kd.V_far (p := ⟨gb148, 2, none⟩) (Kd.V_far (p := ⟨gb148, 1, none⟩) (Kd.V_far (p := ⟨gb148, 0, none⟩) (Kd.V_mono HO0_2.out (fun k_ hk => (⟨hk, hk.2⟩ : _ ∧ k_ ≠ gb148))) (fun _ hk => hk.2) (.int .i64 a0_0)) (fun _ hk => hk.2) (.int .i64 a0_1)) (fun _ hk => hk.2) (.slice A0_2 l0_2.length c0_2)) (fun _ hk => hk.2) (.int .i64 a0_3)) (fun _ hk => hk.2) (.bool true)) (fun _ hk => hk.2) (.bool a0_5)) (fun _ hk => hk.1.1.1), bl_⟩
  ·replace c5 := Bool.eq_false_iff.mpr c5
   subst c5
   have H1 : ((grid_Copy.f a0_0 a0_1 l0_2 a0_3 false a0_5).bind fun bt150 => ((move_to.f k bt150.1 bt150.2.1 bt150.2.2.1 bt150.2.2.2.1 bt150.2.2.2.2.1 bt150.2.2.2.2.2 a1).bind fun t158 => (some (bt150.1, bt150.2.1, bt150.2.2.1, t158, bt150.2.2.2.2.1, bt150.2.2.2.2.2, none)))) = some (r1, r2, r3, r4, r5, r6, r7) := by rw [if_neg (show ¬ (false = true) by decide)] at H; exact H
   clear H
   have H := H1
   clear H1
   replace H := Option.bind_eq_some_iff.mp H
   obtain ⟨⟨t150, t151, t152, t155, t156, t157⟩, A110, H⟩ := H
   replace H : ((move_to.f k t150 t151 t152 t155 t156 t157 a1).bind fun t158 => (some (t150, t151, t152, t158, t156, t157, none))) = some (r1, r2, r3, r4, r5, r6, r7) := H
   have A11 := Aside0.mk A110
   clear A110
   replace H := Option.bind_eq_some_iff.mp H
   obtain ⟨t158, A120, H⟩ := H
   replace H : (some (t150, t151, t152, t158, t156, t157, none)) = some (r1, r2, r3, r4, r5, r6, r7) := H
   have A12 := Aside0.mk A120
   clear A120
   simp only [Option.some.injEq, Prod.mk.injEq] at H
   obtain ⟨rfl, rfl, rfl, rfl, rfl, rfl, rfl⟩ := H
   go_enter Tryd.func10, Tryd.ntmps10
   go_wp2_with (first | ((with_reducible refine gate_dst (N := 2) rfl ?_); refine box_event ?hg (N := 2) ?hd (cs := #[.int .i64 a0_0, .int .i64 a0_1, .slice A0_2 l0_2.length c0_2, .int .i64 a0_3, .bool false, .bool a0_5]) (t := 24) ?hr ?_; (case hd => rfl); (case hg => rfl); (case hr => first | (go_simp; done) | (go_simp; rfl)); intro gb147 hg w13 hbox hb; have n0_ := Aside0.mk (Kd.V_below (Kd.V_elderB (by (with_reducible repeat apply pV); exact HO0_2.out) gb147 (Nat.le_of_eq hg.symm)) hb); have n1_ := Aside0.mk (below_step bl_ hb); have n2_ := Aside0.mk (hbox); have n3_ := Aside0.mk ((le_new hg (below_size bl_) : w.heap.size ≤ gb147)); have n4_ := Aside0.mk ((le_new hg (below_size bl_) : w.heap.size ≤ gb147)); clear HO0_2; clear HB; have HO0_2 := n0_; have HB := n1_; have BK147 := n2_; have GW147 := n3_; have GE147 := n4_; clear n0_ n1_ n2_ n3_ n4_; clear hb hbox hg) | ((with_reducible refine gate_dst (N := 4) rfl ?_); refine box_event ?hg (N := 4) ?hd (cs := #[.int .i64 0, .int .i64 0, .slice none 0 0, .int .i64 0, .bool false, .bool false]) (t := 24) ?hr ?_; (case hd => rfl); (case hg => rfl); (case hr => first | (go_simp; done) | (go_simp; rfl)); intro gb148 hg w14 hbox hb; have n0_ := Aside0.mk (Kd.V_below (Kd.V_elderB (by (with_reducible repeat apply pV); exact HO0_2.out) gb148 (Nat.le_of_eq hg.symm)) hb); have n1_ := Aside0.mk (blk_below (g := gb147) (o := .cells #[.int .i64 a0_0, .int .i64 a0_1, .slice A0_2 l0_2.length c0_2, .int .i64 a0_3, .bool false, .bool a0_5] 24 (0, 0)) (by (with_reducible repeat apply pK); exact BK147.out) hb); have n2_ := Aside0.mk (below_step bl_ hb); have n3_ := Aside0.mk (hbox); have n4_ := Aside0.mk ((le_new hg (below_size bl_) : w.heap.size ≤ gb148)); have n5_ := Aside0.mk ((le_new hg (below_size bl_) : w.heap.size ≤ gb148)); have n6_ := Aside0.mk ((by rw [hg]; exact Nat.ne_of_lt (blk_lt (g := gb147) (o := .cells #[.int .i64 a0_0, .int .i64 a0_1, .slice A0_2 l0_2.length c0_2, .int .i64 a0_3, .bool false, .bool a0_5] 24 (0, 0)) (by (with_reducible repeat apply pK); exact BK147.out)) : gb147 ≠ gb148)); have n7_ := Aside0.mk ((by rw [hg]; exact Nat.ne_of_gt (blk_lt (g := gb147) (o := .cells #[.int .i64 a0_0, .int .i64 a0_1, .slice A0_2 l0_2.length c0_2, .int .i64 a0_3, .bool false, .bool a0_5] 24 (0, 0)) (by (with_reducible repeat apply pK); exact BK147.out)) : gb148 ≠ gb147)); clear HO0_2; clear BK147; clear HB; have HO0_2 := n0_; have BK147 := n1_; have HB := n2_; have BK148 := n3_; have GW148 := n4_; have GE148 := n5_; have NB147_148 := n6_; have NB148_147 := n7_; clear n0_ n1_ n2_ n3_ n4_ n5_ n6_ n7_; clear hb hbox hg) | ((with_reducible refine gate_callee (f := 14) rfl ?_); refine goesL_ (some 8) rfl rfl Tryd.func14 (by kernel_rfl) rfl #[.int .i64 a1] rfl ag_ ?_; (with_reducible refine (move_Moves.calls a1 true _ A3.out).mono ?_); rintro e w' ⟨rfl, ⟨nd, rfl⟩⟩; refine ⟨_, rfl, ?_⟩; (try (rw [drewN_self w14]; generalize hq_ : World.drewN w14 _ = w14; have n0_ : Aside0 (Kd.V k44 44 w14 w.heap.size (fun k_ => ((((P0_2_ k_ ∨ w.heap.size ≤ k_)) ∧ k_ ≠ gb147) ∧ k_ ≠ gb148)) (.slice A0_2 l0_2.length c0_2) l0_2) := ⟨by rw [← hq_]; exact (by (with_reducible repeat apply pV); exact HO0_2.out)⟩; have n1_ : Aside0 (w14.heap[gb147]? = some (.cells #[.int .i64 a0_0, .int .i64 a0_1, .slice A0_2 l0_2.length c0_2, .int .i64 a0_3, .bool false, .bool a0_5] 24 (0, 0))) := ⟨by rw [← hq_]; exact (by (with_reducible repeat apply pK); exact BK147.out)⟩; have n2_ : Aside0 (w14.heap[gb148]? = some (.cells #[.int .i64 0, .int .i64 0, .slice none 0 0, .int .i64 0, .bool false, .bool false] 24 (0, 0))) := ⟨by rw [← hq_]; exact (by (with_reducible repeat apply pK); exact BK148.out)⟩; have n3_ : Aside0 (Below w.heap.size w w14) := ⟨by rw [← hq_]; exact bl_⟩; clear HO0_2 BK147 BK148 HB hq_; have HO0_2 := n0_; have BK147 := n1_; have BK148 := n2_; have HB := n3_; clear n0_ n1_ n2_ n3_)); have hnb15 := NB147_148.out; have hnc15 := NB148_147.out; obtain ⟨hcz16_0, hcz16_1, hcz16_2, hcz16_3, hcz16_4, hcz16_5, hfz16_0, hfz16_1, hfz16_2, hfz16_3, hfz16_4, hfz16_5⟩ := cells6 (show w14.heap[gb147]? = some (.cells #[.int .i64 a0_0, .int .i64 a0_1, .slice A0_2 l0_2.length c0_2, .int .i64 a0_3, .bool false, .bool a0_5] _ (0, 0)) from BK147.out)) | ((with_reducible refine gate_callee (f := 19) rfl ?_); refine goesL_ (some 18) rfl rfl Tryd.func19 (by kernel_rfl) rfl #[.agg #[.int .i64 a0_0, .int .i64 a0_1, .slice A0_2 l0_2.length c0_2, .int .i64 a0_3, .bool false, .bool a0_5]] rfl ag_ ?_; (with_reducible refine (grid_Copy.calls a0_0 a0_1 _ _ l0_2 a0_3 false a0_5 t150 t151 t152 t155 t156 t157 _ ?side1 ?side2 A11.out).mono ?_); (case side1 => repeat (first | exact (Kd.V_reads' HO0_2.out).2.2 | (with_reducible apply pC))); (case side2 => exact (Kd.V_reads' HO0_2.out).2.1); rintro e w17 ⟨v153, rfl, ho0, hb⟩; refine ⟨_, rfl, ?_⟩; have n0_ := Aside0.mk (Kd.V_elder' (by (with_reducible repeat apply pV); exact HO0_2.out) (Kd.R_base ho0) hb); have n1_ := Aside0.mk (Kd.R_lower (Kd.R_newM (M := fun k_ => (w.heap.size ≤ k_)) ho0 (below_size bl_) (fun k_ h_ => h_)) (below_size bl_)); have n2_ := Aside0.mk (blk_below (g := gb147) (o := .cells #[.int .i64 a0_0, .int .i64 a0_1, .slice A0_2 l0_2.length c0_2, .int .i64 a0_3, .bool false, .bool a0_5] 24 (0, 0)) (by (with_reducible repeat apply pK); exact BK147.out) hb); have n3_ := Aside0.mk (blk_below (g := gb148) (o := .cells #[.int .i64 0, .int .i64 0, .slice none 0 0, .int .i64 0, .bool false, .bool false] 24 (0, 0)) (by (with_reducible repeat apply pK); exact BK148.out) hb); have n4_ := Aside0.mk (below_step bl_ hb); clear HO0_2; clear BK147; clear BK148; clear HB; have HO0_2 := n0_; have HO154 := n1_; have BK147 := n2_; have BK148 := n3_; have HB := n4_; clear n0_ n1_ n2_ n3_ n4_; (try clear hb); (try clear hb2); (try clear hk); (try clear hi); (try clear ho0); obtain ⟨hcz18_0, hcz18_1, hcz18_2, hcz18_3, hcz18_4, hcz18_5, hfz18_0, hfz18_1, hfz18_2, hfz18_3, hfz18_4, hfz18_5⟩ := cells6 (show w17.heap[gb147]? = some (.cells #[.int .i64 a0_0, .int .i64 a0_1, .slice A0_2 l0_2.length c0_2, .int .i64 a0_3, .bool false, .bool a0_5] _ (0, 0)) from BK147.out); obtain ⟨Ao19, co19, eo19⟩ := Kd.R_slice HO154.out; subst eo19) | ((with_reducible refine gate_callee (f := 20) rfl ?_); refine goesL_ (some 21) rfl rfl Tryd.func20 (by kernel_rfl) rfl #[.agg #[.int .i64 t150, .int .i64 t151, .slice Ao19 t152.length co19, .int .i64 t155, .bool t156, .bool t157], .int .i64 a1] rfl ag_ ?_; (with_reducible refine (move_to.calls k t150 t151 _ _ t152 t155 t156 t157 a1 t158 _ ?side1 ?side2 A12.out).mono ?_); (case side1 => refine (Kd.R_reads' (e := 44) (base := w.heap.size) (ok := fun k_ => (((w.heap.size ≤ k_)) ∧ True)) (n := t152.length) (c := co19) ?_).2.2; exact (by (with_reducible repeat apply pR); exact (Kd.R_mono (Kd.R_far (p := ⟨gb147, 5, none⟩) (Kd.R_far (p := ⟨gb147, 4, none⟩) (Kd.R_far (p := ⟨gb147, 3, none⟩) (Kd.R_far (p := ⟨gb147, 2, none⟩) (Kd.R_far (p := ⟨gb147, 1, none⟩) (Kd.R_far (p := ⟨gb147, 0, none⟩) (Kd.R_types HO154.out BK147.out (by decide)) (fun _ hk => hk.2) (.int .i64 t150)) (fun _ hk => hk.2) (.int .i64 t151)) (fun _ hk => hk.2) (.slice Ao19 t152.length co19)) (fun _ hk => hk.2) (.int .i64 t155)) (fun _ hk => hk.2) (.bool t156)) (fun _ hk => hk.2) (.bool t157)) (fun _ h_ => h_.1)))); (case side2 => exact (Kd.R_reads' HO154.out).2.1); rintro e w20 ⟨rfl, hb⟩; refine ⟨_, rfl, ?_⟩; have n0_ := Aside0.mk (Kd.V_below (by (with_reducible repeat apply pV); exact (Kd.V_mono (Kd.V_far (p := ⟨gb147, 5, none⟩) (Kd.V_far (p := ⟨gb147, 4, none⟩) (Kd.V_far (p := ⟨gb147, 3, none⟩) (Kd.V_far (p := ⟨gb147, 2, none⟩) (Kd.V_far (p := ⟨gb147, 1, none⟩) (Kd.V_far (p := ⟨gb147, 0, none⟩) (Kd.V_mono HO0_2.out (fun k_ hk => (⟨hk, hk.1.1.2⟩ : _ ∧ k_ ≠ gb147))) (fun _ hk => hk.2) (.int .i64 t150)) (fun _ hk => hk.2) (.int .i64 t151)) (fun _ hk => hk.2) (.slice Ao19 t152.length co19)) (fun _ hk => hk.2) (.int .i64 t155)) (fun _ hk => hk.2) (.bool t156)) (fun _ hk => hk.2) (.bool t157)) (fun _ h_ => h_.1))) hb); have n1_ := Aside0.mk (Kd.R_below (by (with_reducible repeat apply pR); exact (Kd.R_mono (Kd.R_far (p := ⟨gb147, 5, none⟩) (Kd.R_far (p := ⟨gb147, 4, none⟩) (Kd.R_far (p := ⟨gb147, 3, none⟩) (Kd.R_far (p := ⟨gb147, 2, none⟩) (Kd.R_far (p := ⟨gb147, 1, none⟩) (Kd.R_far (p := ⟨gb147, 0, none⟩) (Kd.R_types HO154.out BK147.out (by decide)) (fun _ hk => hk.2) (.int .i64 t150)) (fun _ hk => hk.2) (.int .i64 t151)) (fun _ hk => hk.2) (.slice Ao19 t152.length co19)) (fun _ hk => hk.2) (.int .i64 t155)) (fun _ hk => hk.2) (.bool t156)) (fun _ hk => hk.2) (.bool t157)) (fun _ h_ => h_.1))) hb); have n2_ := Aside0.mk (blk_below (g := gb147) (o := .cells #[.int .i64 t150, .int .i64 t151, .slice Ao19 t152.length co19, .int .i64 t155, .bool t156, .bool t157] 24 (0, 0)) (by (with_reducible repeat apply pK); refine blk_put (cs := #[.int .i64 t150, .int .i64 t151, .slice Ao19 t152.length co19, .int .i64 t155, .bool t156, .bool a0_5]) ?_ 5 _ rfl; (with_reducible repeat apply pK); refine blk_put (cs := #[.int .i64 t150, .int .i64 t151, .slice Ao19 t152.length co19, .int .i64 t155, .bool false, .bool a0_5]) ?_ 4 _ rfl; (with_reducible repeat apply pK); refine blk_put (cs := #[.int .i64 t150, .int .i64 t151, .slice Ao19 t152.length co19, .int .i64 a0_3, .bool false, .bool a0_5]) ?_ 3 _ rfl; (with_reducible repeat apply pK); refine blk_put (cs := #[.int .i64 t150, .int .i64 t151, .slice A0_2 l0_2.length c0_2, .int .i64 a0_3, .bool false, .bool a0_5]) ?_ 2 _ rfl; (with_reducible repeat apply pK); refine blk_put (cs := #[.int .i64 t150, .int .i64 a0_1, .slice A0_2 l0_2.length c0_2, .int .i64 a0_3, .bool false, .bool a0_5]) ?_ 1 _ rfl; (with_reducible repeat apply pK); refine blk_put (cs := #[.int .i64 a0_0, .int .i64 a0_1, .slice A0_2 l0_2.length c0_2, .int .i64 a0_3, .bool false, .bool a0_5]) ?_ 0 _ rfl; (with_reducible repeat apply pK); exact BK147.out) hb); have n3_ := Aside0.mk (blk_below (g := gb148) (o := .cells #[.int .i64 0, .int .i64 0, .slice none 0 0, .int .i64 0, .bool false, .bool false] 24 (0, 0)) (by (with_reducible repeat apply pK); refine blk_far ?_ NB148_147.out _; (with_reducible repeat apply pK); refine blk_far ?_ NB148_147.out _; (with_reducible repeat apply pK); refine blk_far ?_ NB148_147.out _; (with_reducible repeat apply pK); refine blk_far ?_ NB148_147.out _; (with_reducible repeat apply pK); refine blk_far ?_ NB148_147.out _; (with_reducible repeat apply pK); refine blk_far ?_ NB148_147.out _; (with_reducible repeat apply pK); exact BK148.out) hb); have n4_ := Aside0.mk (below_step bl_ hb); clear HO0_2; clear HO154; clear BK147; clear BK148; clear HB; have HO0_2 := n0_; have HO154 := n1_; have BK147 := n2_; have BK148 := n3_; have HB := n4_; clear n0_ n1_ n2_ n3_ n4_; (try clear hb); (try clear hb2); (try clear hk); (try clear hi); obtain ⟨hcz21_0, hcz21_1, hcz21_2, hcz21_3, hcz21_4, hcz21_5, hfz21_0, hfz21_1, hfz21_2, hfz21_3, hfz21_4, hfz21_5⟩ := cells6 (show w20.heap[gb147]? = some (.cells #[.int .i64 t150, .int .i64 t151, .slice Ao19 t152.length co19, .int .i64 t155, .bool t156, .bool t157] _ (0, 0)) from BK147.out); obtain ⟨hcz22_0, hcz22_1, hcz22_2, hcz22_3, hcz22_4, hcz22_5, hfz22_0, hfz22_1, hfz22_2, hfz22_3, hfz22_4, hfz22_5⟩ := cells6 (show w20.heap[gb148]? = some (.cells #[.int .i64 0, .int .i64 0, .slice none 0 0, .int .i64 0, .bool false, .bool false] _ (0, 0)) from BK148.out)))
   refine bodyPost_ret (results_ct rfl _ _ gb148 24 #[.int .i64 t150, .int .i64 t151, .slice Ao19 t152.length co19, .int .i64 t158, .bool t156, .bool t157] (0, 0) _ rfl (by (with_reducible repeat apply pK); refine blk_put (cs := #[.int .i64 t150, .int .i64 t151, .slice Ao19 t152.length co19, .int .i64 t158, .bool t156, .bool false]) ?_ 5 _ rfl; (with_reducible repeat apply pK); refine blk_put (cs := #[.int .i64 t150, .int .i64 t151, .slice Ao19 t152.length co19, .int .i64 t158, .bool false, .bool false]) ?_ 4 _ rfl; (with_reducible repeat apply pK); refine blk_put (cs := #[.int .i64 t150, .int .i64 t151, .slice Ao19 t152.length co19, .int .i64 0, .bool false, .bool false]) ?_ 3 _ rfl; (with_reducible repeat apply pK); refine blk_put (cs := #[.int .i64 t150, .int .i64 t151, .slice none 0 0, .int .i64 0, .bool false, .bool false]) ?_ 2 _ rfl; (with_reducible repeat apply pK); refine blk_put (cs := #[.int .i64 t150, .int .i64 0, .slice none 0 0, .int .i64 0, .bool false, .bool false]) ?_ 1 _ rfl; (with_reducible repeat apply pK); refine blk_put (cs := #[.int .i64 0, .int .i64 0, .slice none 0 0, .int .i64 0, .bool false, .bool false]) ?_ 0 _ rfl; (with_reducible repeat apply pK); refine blk_far ?_ NB148_147.out _; (with_reducible repeat apply pK); exact BK148.out) Tryd.underlying24 rfl (by kernel_rfl)) rfl ?_
   exact ⟨_, by first | rfl | (simp [errW_none, errW_some] <;> rfl) | (simp [*, errW_none, errW_some] <;> rfl), Kd.V_mono (Kd.R_V (by (with_reducible repeat apply pR); exact Kd.R_mono (Kd.R_far (p := ⟨gb148, 5, none⟩) (Kd.R_far (p := ⟨gb148, 4, none⟩) (Kd.R_far (p := ⟨gb148, 3, none⟩) (Kd.R_far (p := ⟨gb148, 2, none⟩) (Kd.R_far (p := ⟨gb148, 1, none⟩) (Kd.R_far (p := ⟨gb148, 0, none⟩) (Kd.R_far (p := ⟨gb147, 3, none⟩) (Kd.R_types (Kd.R_types HO154.out BK147.out (by decide)) BK148.out (by decide)) (fun _ hk => hk.1.2) (.int .i64 t158)) (fun _ hk => hk.2) (.int .i64 t150)) (fun _ hk => hk.2) (.int .i64 t151)) (fun _ hk => hk.2) (.slice Ao19 t152.length co19)) (fun _ hk => hk.2) (.int .i64 t158)) (fun _ hk => hk.2) (.bool t156)) (fun _ hk => hk.2) (.bool t157)) (fun _ hk => hk.1.1.1))) (fun k_ hk => by first | exact ⟨(.inr (hk.1)), hk.2⟩ | exact (.inr (hk))), bl_⟩
 ·replace c4 := Bool.eq_false_iff.mpr c4
  subst c4
  have H1 : (some (a0_0, a0_1, l0_2, a0_3, a0_4, a0_5, some 1)) = some (r1, r2, r3, r4, r5, r6, r7) := by rw [if_neg (show ¬ (false = true) by decide)] at H; exact H
  clear H
  have H := H1
  clear H1
  simp only [Option.some.injEq, Prod.mk.injEq] at H
  obtain ⟨rfl, rfl, rfl, rfl, rfl, rfl, rfl⟩ := H
  go_enter Tryd.func10, Tryd.ntmps10
  go_wp2_with (first | ((with_reducible refine gate_dst (N := 2) rfl ?_); refine box_event ?hg (N := 2) ?hd (cs := #[.int .i64 a0_0, .int .i64 a0_1, .slice A0_2 l0_2.length c0_2, .int .i64 a0_3, .bool a0_4, .bool a0_5]) (t := 24) ?hr ?_; (case hd => rfl); (case hg => rfl); (case hr => first | (go_simp; done) | (go_simp; rfl)); intro gb147 hg w23 hbox hb; have n0_ := Aside0.mk (Kd.V_below (Kd.V_elderB (by (with_reducible repeat apply pV); exact HO0_2.out) gb147 (Nat.le_of_eq hg.symm)) hb); have n1_ := Aside0.mk (below_step bl_ hb); have n2_ := Aside0.mk (hbox); have n3_ := Aside0.mk ((le_new hg (below_size bl_) : w.heap.size ≤ gb147)); have n4_ := Aside0.mk ((le_new hg (below_size bl_) : w.heap.size ≤ gb147)); clear HO0_2; clear HB; have HO0_2 := n0_; have HB := n1_; have BK147 := n2_; have GW147 := n3_; have GE147 := n4_; clear n0_ n1_ n2_ n3_ n4_; clear hb hbox hg) | ((with_reducible refine gate_dst (N := 4) rfl ?_); refine box_event ?hg (N := 4) ?hd (cs := #[.int .i64 0, .int .i64 0, .slice none 0 0, .int .i64 0, .bool false, .bool false]) (t := 24) ?hr ?_; (case hd => rfl); (case hg => rfl); (case hr => first | (go_simp; done) | (go_simp; rfl)); intro gb148 hg w24 hbox hb; have n0_ := Aside0.mk (Kd.V_below (Kd.V_elderB (by (with_reducible repeat apply pV); exact HO0_2.out) gb148 (Nat.le_of_eq hg.symm)) hb); have n1_ := Aside0.mk (blk_below (g := gb147) (o := .cells #[.int .i64 a0_0, .int .i64 a0_1, .slice A0_2 l0_2.length c0_2, .int .i64 a0_3, .bool a0_4, .bool a0_5] 24 (0, 0)) (by (with_reducible repeat apply pK); exact BK147.out) hb); have n2_ := Aside0.mk (below_step bl_ hb); have n3_ := Aside0.mk (hbox); have n4_ := Aside0.mk ((le_new hg (below_size bl_) : w.heap.size ≤ gb148)); have n5_ := Aside0.mk ((le_new hg (below_size bl_) : w.heap.size ≤ gb148)); have n6_ := Aside0.mk ((by rw [hg]; exact Nat.ne_of_lt (blk_lt (g := gb147) (o := .cells #[.int .i64 a0_0, .int .i64 a0_1, .slice A0_2 l0_2.length c0_2, .int .i64 a0_3, .bool a0_4, .bool a0_5] 24 (0, 0)) (by (with_reducible repeat apply pK); exact BK147.out)) : gb147 ≠ gb148)); have n7_ := Aside0.mk ((by rw [hg]; exact Nat.ne_of_gt (blk_lt (g := gb147) (o := .cells #[.int .i64 a0_0, .int .i64 a0_1, .slice A0_2 l0_2.length c0_2, .int .i64 a0_3, .bool a0_4, .bool a0_5] 24 (0, 0)) (by (with_reducible repeat apply pK); exact BK147.out)) : gb148 ≠ gb147)); clear HO0_2; clear BK147; clear HB; have HO0_2 := n0_; have BK147 := n1_; have HB := n2_; have BK148 := n3_; have GW148 := n4_; have GE148 := n5_; have NB147_148 := n6_; have NB148_147 := n7_; clear n0_ n1_ n2_ n3_ n4_ n5_ n6_ n7_; clear hb hbox hg) | ((with_reducible refine gate_callee (f := 14) rfl ?_); refine goesL_ (some 8) rfl rfl Tryd.func14 (by kernel_rfl) rfl #[.int .i64 a1] rfl ag_ ?_; (with_reducible refine (move_Moves.calls a1 false _ A3.out).mono ?_); rintro e w' ⟨rfl, ⟨nd, rfl⟩⟩; refine ⟨_, rfl, ?_⟩; (try (rw [drewN_self w24]; generalize hq_ : World.drewN w24 _ = w24; have n0_ : Aside0 (Kd.V k44 44 w24 w.heap.size (fun k_ => ((((P0_2_ k_ ∨ w.heap.size ≤ k_)) ∧ k_ ≠ gb147) ∧ k_ ≠ gb148)) (.slice A0_2 l0_2.length c0_2) l0_2) := ⟨by rw [← hq_]; exact (by (with_reducible repeat apply pV); exact HO0_2.out)⟩; have n1_ : Aside0 (w24.heap[gb147]? = some (.cells #[.int .i64 a0_0, .int .i64 a0_1, .slice A0_2 l0_2.length c0_2, .int .i64 a0_3, .bool a0_4, .bool a0_5] 24 (0, 0))) := ⟨by rw [← hq_]; exact (by (with_reducible repeat apply pK); exact BK147.out)⟩; have n2_ : Aside0 (w24.heap[gb148]? = some (.cells #[.int .i64 0, .int .i64 0, .slice none 0 0, .int .i64 0, .bool false, .bool false] 24 (0, 0))) := ⟨by rw [← hq_]; exact (by (with_reducible repeat apply pK); exact BK148.out)⟩; have n3_ : Aside0 (Below w.heap.size w w24) := ⟨by rw [← hq_]; exact bl_⟩; clear HO0_2 BK147 BK148 HB hq_; have HO0_2 := n0_; have BK147 := n1_; have BK148 := n2_; have HB := n3_; clear n0_ n1_ n2_ n3_)); have hnb25 := NB147_148.out; have hnc25 := NB148_147.out; obtain ⟨hcz26_0, hcz26_1, hcz26_2, hcz26_3, hcz26_4, hcz26_5, hfz26_0, hfz26_1, hfz26_2, hfz26_3, hfz26_4, hfz26_5⟩ := cells6 (show w24.heap[gb147]? = some (.cells #[.int .i64 a0_0, .int .i64 a0_1, .slice A0_2 l0_2.length c0_2, .int .i64 a0_3, .bool a0_4, .bool a0_5] _ (0, 0)) from BK147.out); obtain ⟨hcz27_0, hcz27_1, hcz27_2, hcz27_3, hcz27_4, hcz27_5, hfz27_0, hfz27_1, hfz27_2, hfz27_3, hfz27_4, hfz27_5⟩ := cells6 (show w24.heap[gb148]? = some (.cells #[.int .i64 0, .int .i64 0, .slice none 0 0, .int .i64 0, .bool false, .bool false] _ (0, 0)) from BK148.out)))
  refine bodyPost_ret (results_ct rfl _ _ gb148 24 #[.int .i64 a0_0, .int .i64 a0_1, .slice A0_2 l0_2.length c0_2, .int .i64 a0_3, .bool a0_4, .bool a0_5] (0, 0) _ rfl (by (with_reducible repeat apply pK); refine blk_put (cs := #[.int .i64 a0_0, .int .i64 a0_1, .slice A0_2 l0_2.length c0_2, .int .i64 a0_3, .bool a0_4, .bool false]) ?_ 5 _ rfl; (with_reducible repeat apply pK); refine blk_put (cs := #[.int .i64 a0_0, .int .i64 a0_1, .slice A0_2 l0_2.length c0_2, .int .i64 a0_3, .bool false, .bool false]) ?_ 4 _ rfl; (with_reducible repeat apply pK); refine blk_put (cs := #[.int .i64 a0_0, .int .i64 a0_1, .slice A0_2 l0_2.length c0_2, .int .i64 0, .bool false, .bool false]) ?_ 3 _ rfl; (with_reducible repeat apply pK); refine blk_put (cs := #[.int .i64 a0_0, .int .i64 a0_1, .slice none 0 0, .int .i64 0, .bool false, .bool false]) ?_ 2 _ rfl; (with_reducible repeat apply pK); refine blk_put (cs := #[.int .i64 a0_0, .int .i64 0, .slice none 0 0, .int .i64 0, .bool false, .bool false]) ?_ 1 _ rfl; (with_reducible repeat apply pK); refine blk_put (cs := #[.int .i64 0, .int .i64 0, .slice none 0 0, .int .i64 0, .bool false, .bool false]) ?_ 0 _ rfl; (with_reducible repeat apply pK); exact BK148.out) Tryd.underlying24 rfl (by kernel_rfl)) rfl ?_
  exact ⟨_, by first | rfl | (simp [errW_none, errW_some] <;> rfl) | (simp [*, errW_none, errW_some] <;> rfl), by (with_reducible repeat apply pV); exact Kd.V_mono (Kd.V_far (p := ⟨gb148, 5, none⟩) (Kd.V_far (p := ⟨gb148, 4, none⟩) (Kd.V_far (p := ⟨gb148, 3, none⟩) (Kd.V_far (p := ⟨gb148, 2, none⟩) (Kd.V_far (p := ⟨gb148, 1, none⟩) (Kd.V_far (p := ⟨gb148, 0, none⟩) (Kd.V_mono HO0_2.out (fun k_ hk => (⟨hk, hk.2⟩ : _ ∧ k_ ≠ gb148))) (fun _ hk => hk.2) (.int .i64 a0_0)) (fun _ hk => hk.2) (.int .i64 a0_1)) (fun _ hk => hk.2) (.slice A0_2 l0_2.length c0_2)) (fun _ hk => hk.2) (.int .i64 a0_3)) (fun _ hk => hk.2) (.bool a0_4)) (fun _ hk => hk.2) (.bool a0_5)) (fun _ hk => hk.1.1.1), bl_⟩

/-! ### api_Code: function 13 -/
section
def api_Code.f (a0 : Option Int) : Option Int := some (a0.getD 0)
set_option maxRecDepth 100000 in
set_option maxHeartbeats 4000000 in
theorem api_Code.calls (a0 : Option Int) (r : Int) (w : World) (hG : LaidG w) (h : api_Code.f a0 = some r) :
  Calls Tryd.prog 13 #[errW a0] w fun e w' => e = .returned (.int .i64 r) ∧ Below w.heap.size w w' := by
 obtain rfl := Option.some.inj h
 clear h
 rcases a0 with _ | n
 ·rw [errW_none]
  go_enter Tryd.func13, Tryd.ntmps13
  go_wp2
  go_ret
  exact ⟨rfl, below_alloc (Below.refl _ _) _⟩
 ·rw [errW_some]
  have HA := Aside0.mk (EA.hit n ⟨w.heap.size, 0, none⟩ (.int .i64 0) (w.alloc (.cells #[.int .i64 0] 47)) (laidG_alloc hG _) (by simp) (by rw [frozen?_alloc_cells]; simp [World.frozen?]))
  go_enter Tryd.func13, Tryd.ntmps13
  go_wp2_with (go_at_call 22; refine HA.out.mono ?_; rintro e w' ⟨rfl, rfl⟩)
  go_ret
  exact ⟨rfl, below_alloc (below_alloc (below_alloc (below_alloc (below_alloc (Below.refl _ _) _) _) _) _) _⟩
end

/-! ### shutterlaw15_awake: function 8 -/
def shutterlaw15_awake.f (k : Nat)  : Option (Bool) := (some (([(⟨true, (⟨true, false, 0, false⟩ : S42), 0⟩ : S44), (⟨false, (⟨false, false, 0, false⟩ : S42), 0⟩ : S44), (⟨true, (⟨false, false, 0, false⟩ : S42), 0⟩ : S44), (⟨false, (⟨false, false, 0, false⟩ : S42), 0⟩ : S44)] : List (S44)) : List (S44))).bind fun y159 => ((move_Do.f k 2 2 y159 0 false false 6).bind fun bt163 => ((move_Do.f k bt163.1 bt163.2.1 bt163.2.2.1 bt163.2.2.2.1 bt163.2.2.2.2.1 bt163.2.2.2.2.2.1 5).bind fun bt173 => ((move_Do.f k 2 2 y159 0 false false 1).bind fun bt183 => (if bt163.2.2.2.2.2.2.isNone = true then (if bt163.2.2.2.1 = 3 then (if bt173.2.2.2.2.2.2.isNone = true then (if bt173.2.2.2.1 = 1 then ((api_Code.f bt183.2.2.2.2.2.2).bind fun t195 => (if t195 = 1 then ((move_Moves.f 9).bind fun t196 => (if t196 = true then ((move_Moves.f 10).bind fun t197 => (some (!t197))) else (none))) else (none))) else (none)) else (none)) else (none)) else (none)))))
theorem shutterlaw15_awake.mono : ∀ k, LeO (shutterlaw15_awake.f k ) (shutterlaw15_awake.f (k + 1) ) := by
 intro  k
 unfold shutterlaw15_awake.f
 repeat' first
   | (with_reducible exact move_Do.mono _ _ _ _ _ _ _ _)
   | (with_reducible exact LeO.refl _)
   | (with_reducible exact LeO.none _)
   | (with_reducible refine LeO.ite ?_ ?_)
   | (with_reducible refine LeO.bind ?_ (fun _ => ?_))
   | exact move_Do.mono _ _ _ _ _ _ _ _
   | exact LeO.none _
   | refine LeO.ite ?_ ?_
   | refine LeO.bind ?_ (fun _ => ?_)
set_option maxHeartbeats 8000000 in
set_option maxRecDepth 100000 in
theorem shutterlaw15_awake.calls (k : Nat)  (r : Bool) (w : World) (hG : LaidG w) (h : shutterlaw15_awake.f k  = some r) :
  Calls Tryd.prog 8 #[] w fun e w' => e = .returned (.bool r) ∧ Below w.heap.size w w' := by
 have HG := Aside0.mk hG
 clear hG
 have hu42 := Tryd.underlying42
 have hu44 := Tryd.underlying44
 have hu24 := Tryd.underlying24
 have hu28 := Tryd.underlying28
 have hu47 := Tryd.underlying47
 have HB := Aside0.mk (Below.refl w.heap.size w)
 have H : ((some (([(⟨true, (⟨true, false, 0, false⟩ : S42), 0⟩ : S44), (⟨false, (⟨false, false, 0, false⟩ : S42), 0⟩ : S44), (⟨true, (⟨false, false, 0, false⟩ : S42), 0⟩ : S44), (⟨false, (⟨false, false, 0, false⟩ : S42), 0⟩ : S44)] : List (S44)) : List (S44))).bind fun y159 => ((move_Do.f k 2 2 y159 0 false false 6).bind fun bt163 => ((move_Do.f k bt163.1 bt163.2.1 bt163.2.2.1 bt163.2.2.2.1 bt163.2.2.2.2.1 bt163.2.2.2.2.2.1 5).bind fun bt173 => ((move_Do.f k 2 2 y159 0 false false 1).bind fun bt183 => (if bt163.2.2.2.2.2.2.isNone = true then (if bt163.2.2.2.1 = 3 then (if bt173.2.2.2.2.2.2.isNone = true then (if bt173.2.2.2.1 = 1 then ((api_Code.f bt183.2.2.2.2.2.2).bind fun t195 => (if t195 = 1 then ((move_Moves.f 9).bind fun t196 => (if t196 = true then ((move_Moves.f 10).bind fun t197 => (some (!t197))) else (none))) else (none))) else (none)) else (none)) else (none)) else (none)))))) = some r := h
 clear h
 obtain ⟨y159, hy159⟩ : ∃ y_ : List (S44), y_ = (([(⟨true, (⟨true, false, 0, false⟩ : S42), 0⟩ : S44), (⟨false, (⟨false, false, 0, false⟩ : S42), 0⟩ : S44), (⟨true, (⟨false, false, 0, false⟩ : S42), 0⟩ : S44), (⟨false, (⟨false, false, 0, false⟩ : S42), 0⟩ : S44)] : List (S44))) := ⟨_, rfl⟩
 replace H : ((move_Do.f k 2 2 y159 0 false false 6).bind fun bt163 => ((move_Do.f k bt163.1 bt163.2.1 bt163.2.2.1 bt163.2.2.2.1 bt163.2.2.2.2.1 bt163.2.2.2.2.2.1 5).bind fun bt173 => ((move_Do.f k 2 2 y159 0 false false 1).bind fun bt183 => (if bt163.2.2.2.2.2.2.isNone = true then (if bt163.2.2.2.1 = 3 then (if bt173.2.2.2.2.2.2.isNone = true then (if bt173.2.2.2.1 = 1 then ((api_Code.f bt183.2.2.2.2.2.2).bind fun t195 => (if t195 = 1 then ((move_Moves.f 9).bind fun t196 => (if t196 = true then ((move_Moves.f 10).bind fun t197 => (some (!t197))) else (none))) else (none))) else (none)) else (none)) else (none)) else (none))))) = some r := by first | (rw [hy159]; with_reducible exact H) | (have H2_ := (Option.bind_some _ _).symm.trans H; rw [hy159]; with_reducible exact H2_) | (have H2_ := (Option.bind_some _ _).symm.trans H; with_reducible exact H2_) | with_reducible exact H | (rw [hy159]; exact H) | exact H
 have Ny159 := Aside0.mk hy159
 clear hy159
 replace H := Option.bind_eq_some_iff.mp H
 obtain ⟨⟨t163, t164, t165, t168, t169, t170, t171⟩, A10, H⟩ := H
 replace H : ((move_Do.f k t163 t164 t165 t168 t169 t170 5).bind fun bt173 => ((move_Do.f k 2 2 y159 0 false false 1).bind fun bt183 => (if t171.isNone = true then (if t168 = 3 then (if bt173.2.2.2.2.2.2.isNone = true then (if bt173.2.2.2.1 = 1 then ((api_Code.f bt183.2.2.2.2.2.2).bind fun t195 => (if t195 = 1 then ((move_Moves.f 9).bind fun t196 => (if t196 = true then ((move_Moves.f 10).bind fun t197 => (some (!t197))) else (none))) else (none))) else (none)) else (none)) else (none)) else (none)))) = some r := H
 have A1 := Aside0.mk A10
 clear A10
 replace H := Option.bind_eq_some_iff.mp H
 obtain ⟨⟨t173, t174, t175, t178, t179, t180, t181⟩, A20, H⟩ := H
 replace H : ((move_Do.f k 2 2 y159 0 false false 1).bind fun bt183 => (if t171.isNone = true then (if t168 = 3 then (if t181.isNone = true then (if t178 = 1 then ((api_Code.f bt183.2.2.2.2.2.2).bind fun t195 => (if t195 = 1 then ((move_Moves.f 9).bind fun t196 => (if t196 = true then ((move_Moves.f 10).bind fun t197 => (some (!t197))) else (none))) else (none))) else (none)) else (none)) else (none)) else (none))) = some r := H
 have A2 := Aside0.mk A20
 clear A20
 replace H := Option.bind_eq_some_iff.mp H
 obtain ⟨⟨t183, t184, t185, t188, t189, t190, t191⟩, A30, H⟩ := H
 replace H : (if t171.isNone = true then (if t168 = 3 then (if t181.isNone = true then (if t178 = 1 then ((api_Code.f t191).bind fun t195 => (if t195 = 1 then ((move_Moves.f 9).bind fun t196 => (if t196 = true then ((move_Moves.f 10).bind fun t197 => (some (!t197))) else (none))) else (none))) else (none)) else (none)) else (none)) else (none)) = some r := H
 have A3 := Aside0.mk A30
 clear A30
 rcases t171 with _ | q193
 ·have H1 : (if t168 = 3 then (if t181.isNone = true then (if t178 = 1 then ((api_Code.f t191).bind fun t195 => (if t195 = 1 then ((move_Moves.f 9).bind fun t196 => (if t196 = true then ((move_Moves.f 10).bind fun t197 => (some (!t197))) else (none))) else (none))) else (none)) else (none)) else (none)) = some r := by rw [if_pos (show (none : Option Int).isNone = true by rfl)] at H; exact H
  clear H
  have H := H1
  clear H1
  try simp only [errW_none, errW_some]
  by_cases c4 : t168 = 3
  ·rw [if_pos c4] at H
   have c4b0 : (t168 == 3) = true := beq_iff_eq.mpr c4
   have c4b1 : (t168 != 3) = false := bne_eq_false_iff_eq.mpr c4
   clear c4
   rcases t181 with _ | q194
   ·have H1 : (if t178 = 1 then ((api_Code.f t191).bind fun t195 => (if t195 = 1 then ((move_Moves.f 9).bind fun t196 => (if t196 = true then ((move_Moves.f 10).bind fun t197 => (some (!t197))) else (none))) else (none))) else (none)) = some r := by rw [if_pos (show (none : Option Int).isNone = true by rfl)] at H; exact H
    clear H
    have H := H1
    clear H1
    try simp only [errW_none, errW_some]
    by_cases c5 : t178 = 1
    ·rw [if_pos c5] at H
     have c5b0 : (t178 == 1) = true := beq_iff_eq.mpr c5
     have c5b1 : (t178 != 1) = false := bne_eq_false_iff_eq.mpr c5
     clear c5
     replace H := Option.bind_eq_some_iff.mp H
     obtain ⟨t195, A60, H⟩ := H
     replace H : (if t195 = 1 then ((move_Moves.f 9).bind fun t196 => (if t196 = true then ((move_Moves.f 10).bind fun t197 => (some (!t197))) else (none))) else (none)) = some r := H
     have A6 := Aside0.mk A60
     clear A60
     by_cases c7 : t195 = 1
     ·rw [if_pos c7] at H
      have c7b0 : (t195 == 1) = true := beq_iff_eq.mpr c7
      have c7b1 : (t195 != 1) = false := bne_eq_false_iff_eq.mpr c7
      clear c7
      replace H := Option.bind_eq_some_iff.mp H
      obtain ⟨t196, A80, H⟩ := H
      replace H : (if t196 = true then ((move_Moves.f 10).bind fun t197 => (some (!t197))) else (none)) = some r := H
      have A8 := Aside0.mk A80
      clear A80
      by_cases c9 : t196 = true
      ·subst c9
       have H1 : ((move_Moves.f 10).bind fun t197 => (some (!t197))) = some r := by rw [if_pos rfl] at H; exact H
       clear H
       have H := H1
       clear H1
       replace H := Option.bind_eq_some_iff.mp H
       obtain ⟨t197, A100, H⟩ := H
       replace H : (some (!t197)) = some r := H
       have A10 := Aside0.mk A100
       clear A100
       obtain rfl := Option.some.inj H
       go_enter Tryd.func8, Tryd.ntmps8
       go_wp2_with (first | ((with_reducible refine gate_dst (N := 13) rfl ?_); refine Kd.R_lit k44 _ 44 ?hg (N := 13) ?hd (xs := ([(⟨true, (⟨true, false, 0, false⟩ : S42), 0⟩ : S44), (⟨false, (⟨false, false, 0, false⟩ : S42), 0⟩ : S44), (⟨true, (⟨false, false, 0, false⟩ : S42), 0⟩ : S44), (⟨false, (⟨false, false, 0, false⟩ : S42), 0⟩ : S44)] : List (S44))) (inner := [.bool true, .bool true, .bool false, .int .i64 0, .bool false, .int .u8 0, .bool false, .bool false, .bool false, .int .i64 0, .bool false, .int .u8 0, .bool true, .bool false, .bool false, .int .i64 0, .bool false, .int .u8 0, .bool false, .bool false, .bool false, .int .i64 0, .bool false, .int .u8 0]) (ok := fun _ => True) (okp := fun _ => True) ?hr ?hp (fun _ hk => hk) trivial (Below.refl _ _) (Nat.le_refl _) (by simp) ?_; (case hd => rfl); (case hg => rfl); (case hr => first | (go_simp; done) | (go_simp; rfl)); (case hp => exact (Reps.c6 (show Kd.M k44 _ _ _ (⟨true, (⟨true, false, 0, false⟩ : S42), 0⟩ : S44) [.bool true, .bool true, .bool false, .int .i64 0, .bool false, .int .u8 0] from (k44_mkM _ _ _ (⟨true, (⟨true, false, 0, false⟩ : S42), 0⟩ : S44) )) (Reps.c6 (show Kd.M k44 _ _ _ (⟨false, (⟨false, false, 0, false⟩ : S42), 0⟩ : S44) [.bool false, .bool false, .bool false, .int .i64 0, .bool false, .int .u8 0] from (k44_mkM _ _ _ (⟨false, (⟨false, false, 0, false⟩ : S42), 0⟩ : S44) )) (Reps.c6 (show Kd.M k44 _ _ _ (⟨true, (⟨false, false, 0, false⟩ : S42), 0⟩ : S44) [.bool true, .bool false, .bool false, .int .i64 0, .bool false, .int .u8 0] from (k44_mkM _ _ _ (⟨true, (⟨false, false, 0, false⟩ : S42), 0⟩ : S44) )) (Reps.c6 (show Kd.M k44 _ _ _ (⟨false, (⟨false, false, 0, false⟩ : S42), 0⟩ : S44) [.bool false, .bool false, .bool false, .int .i64 0, .bool false, .int .u8 0] from (k44_mkM _ _ _ (⟨false, (⟨false, false, 0, false⟩ : S42), 0⟩ : S44) )) (Reps.none _ _)))))); intro v160 w11 ho12 hb hg_ hnew_; clear hg_ hnew_; (first | rw [← Ny159.out] at ho12 | (simp only [Int.reduceToNat] at ho12; rw [← Ny159.out] at ho12)); have n0_ := Aside0.mk (Kd.R_lower ho12 (below_size bl_)); have n1_ := Aside0.mk (below_step bl_ hb); clear HB; have HO161 := n0_; have HB := n1_; clear n0_ n1_; clear hb ho12; obtain ⟨Ao13, co13, eo13⟩ := Kd.R_slice HO161.out; subst eo13) | ((with_reducible refine gate_dst (N := 1) rfl ?_); refine box_event ?hg (N := 1) ?hd (cs := #[.int .i64 0, .int .i64 0, .slice none 0 0, .int .i64 0, .bool false, .bool false]) (t := 24) ?hr ?_; (case hd => rfl); (case hg => rfl); (case hr => first | (go_simp; done) | (go_simp; rfl)); intro gb162 hg w14 hbox hb; have n0_ := Aside0.mk (Kd.R_below (by (with_reducible repeat apply pR); exact HO161.out) hb); have n1_ := Aside0.mk (below_step bl_ hb); have n2_ := Aside0.mk (hbox); have n3_ := Aside0.mk ((le_new hg (below_size bl_) : w.heap.size ≤ gb162)); have n4_ := Aside0.mk ((le_new hg (below_size bl_) : w.heap.size ≤ gb162)); clear HO161; clear HB; have HO161 := n0_; have HB := n1_; have BK162 := n2_; have GW162 := n3_; have GE162 := n4_; clear n0_ n1_ n2_ n3_ n4_; clear hb hbox hg; obtain ⟨hcz15_0, hcz15_1, hcz15_2, hcz15_3, hcz15_4, hcz15_5, hfz15_0, hfz15_1, hfz15_2, hfz15_3, hfz15_4, hfz15_5⟩ := cells6 (show w14.heap[gb162]? = some (.cells #[.int .i64 0, .int .i64 0, .slice none 0 0, .int .i64 0, .bool false, .bool false] _ (0, 0)) from BK162.out)) | ((with_reducible refine gate_store (t := 24) (p := 1) rfl ?_); refine store_event (t := 24) (p := 1) (v := ?vo_w16) (w1 := ((((((w14.setCell ⟨gb162, 0, none⟩ (.int .i64 2)).setCell ⟨gb162, 1, none⟩ (.int .i64 2)).setCell ⟨gb162, 2, none⟩ (.slice Ao13 y159.length co13)).setCell ⟨gb162, 3, none⟩ (.int .i64 0)).setCell ⟨gb162, 4, none⟩ (.bool false)).setCell ⟨gb162, 5, none⟩ (.bool false))) ?hg ?ho ?hn ?hr ?_; (case ho => rfl); (case hg => rfl); (case hn => rfl); (case hr => first | (go_simp; done) | (go_simp; rfl)); intro w16 hw; have n0_ : Aside0 (Kd.R k44 44 w16 w.heap.size (fun _ => True) (.slice Ao13 y159.length co13) y159) := ⟨(by rw [hw]; exact (by (with_reducible repeat apply pR); exact Kd.R_mono (Kd.R_far (p := ⟨gb162, 5, none⟩) (Kd.R_far (p := ⟨gb162, 4, none⟩) (Kd.R_far (p := ⟨gb162, 3, none⟩) (Kd.R_far (p := ⟨gb162, 2, none⟩) (Kd.R_far (p := ⟨gb162, 1, none⟩) (Kd.R_far (p := ⟨gb162, 0, none⟩) (Kd.R_types HO161.out BK162.out (by decide)) (fun _ hk => hk.2) (.int .i64 2)) (fun _ hk => hk.2) (.int .i64 2)) (fun _ hk => hk.2) (.slice Ao13 y159.length co13)) (fun _ hk => hk.2) (.int .i64 0)) (fun _ hk => hk.2) (.bool false)) (fun _ hk => hk.2) (.bool false)) (fun _ hk => trivial)))⟩; have n1_ : Aside0 (w16.heap[gb162]? = some (.cells #[.int .i64 2, .int .i64 2, .slice Ao13 y159.length co13, .int .i64 0, .bool false, .bool false] 24 (0, 0))) := ⟨(by rw [hw]; exact (by (with_reducible repeat apply pK); refine blk_put (cs := #[.int .i64 2, .int .i64 2, .slice Ao13 y159.length co13, .int .i64 0, .bool false, .bool false]) ?_ 5 _ rfl; (with_reducible repeat apply pK); refine blk_put (cs := #[.int .i64 2, .int .i64 2, .slice Ao13 y159.length co13, .int .i64 0, .bool false, .bool false]) ?_ 4 _ rfl; (with_reducible repeat apply pK); refine blk_put (cs := #[.int .i64 2, .int .i64 2, .slice Ao13 y159.length co13, .int .i64 0, .bool false, .bool false]) ?_ 3 _ rfl; (with_reducible repeat apply pK); refine blk_put (cs := #[.int .i64 2, .int .i64 2, .slice none 0 0, .int .i64 0, .bool false, .bool false]) ?_ 2 _ rfl; (with_reducible repeat apply pK); refine blk_put (cs := #[.int .i64 2, .int .i64 0, .slice none 0 0, .int .i64 0, .bool false, .bool false]) ?_ 1 _ rfl; (with_reducible repeat apply pK); refine blk_put (cs := #[.int .i64 0, .int .i64 0, .slice none 0 0, .int .i64 0, .bool false, .bool false]) ?_ 0 _ rfl; (with_reducible repeat apply pK); exact BK162.out))⟩; have n2_ : Aside0 (Below w.heap.size w w16) := ⟨(by rw [hw]; exact bl_)⟩; clear hw; clear HO161; clear BK162; clear HB; have HO161 := n0_; have BK162 := n1_; have HB := n2_; clear n0_ n1_ n2_; obtain ⟨hcz17_0, hcz17_1, hcz17_2, hcz17_3, hcz17_4, hcz17_5, hfz17_0, hfz17_1, hfz17_2, hfz17_3, hfz17_4, hfz17_5⟩ := cells6 (show w16.heap[gb162]? = some (.cells #[.int .i64 2, .int .i64 2, .slice Ao13 y159.length co13, .int .i64 0, .bool false, .bool false] _ (0, 0)) from BK162.out)) | ((with_reducible refine gate_callee (f := 10) rfl ?_); refine goesL_ (some 17) rfl rfl Tryd.func10 (by kernel_rfl) rfl #[.agg #[.int .i64 2, .int .i64 2, .slice Ao13 y159.length co13, .int .i64 0, .bool false, .bool false], .int .i64 6] rfl ag_ ?_; (with_reducible refine (move_Do.calls k 2 2 (fun k_ => some k_ = (.slice Ao13 y159.length co13 : Value).ownBlock) _ _ y159 0 false false 6 t163 t164 t165 t168 t169 t170 none _ ?side1 A1.out).mono ?_); (case side1 => exact Kd.R_V (Kd.R_tight rfl (Kd.R_types (HO161.out) BK162.out (by decide)))); rintro e w18 ⟨v166, rfl, ho0, hb⟩; refine ⟨_, rfl, ?_⟩; have n0_ := Aside0.mk (Kd.R_below (by (with_reducible repeat apply pR); exact HO161.out) hb); have n1_ := Aside0.mk (Kd.V_lower (Kd.V_mono (ok' := fun k_ => k_ ≠ gb162) ho0 (fun k_ hk_ => Or.elim hk_ (fun hs_ => ((Kd.R_types (HO161.out) BK162.out (by decide)).1 k_ hs_.symm).2) (fun hn_ => (Kd.freshB (g := gb162) (o := .cells #[.int .i64 2, .int .i64 2, .slice Ao13 y159.length co13, .int .i64 0, .bool false, .bool false] 24 (0, 0)) (by (with_reducible repeat apply pK); exact BK162.out) k_ hn_)))) (below_size bl_)); have n2_ := Aside0.mk (blk_below (g := gb162) (o := .cells #[.int .i64 2, .int .i64 2, .slice Ao13 y159.length co13, .int .i64 0, .bool false, .bool false] 24 (0, 0)) (by (with_reducible repeat apply pK); exact BK162.out) hb); have n3_ := Aside0.mk (below_step bl_ hb); clear HO161; clear BK162; clear HB; have HO161 := n0_; have HO167 := n1_; have BK162 := n2_; have HB := n3_; clear n0_ n1_ n2_ n3_; (try clear hb); (try clear hb2); (try clear hk); (try clear hi); (try clear ho0); (try simp only [errW_none, errW_some])) | ((with_reducible refine gate_dst (N := 2) rfl ?_); refine box_event ?hg (N := 2) ?hd (cs := #[.int .i64 0, .int .i64 0, .slice none 0 0, .int .i64 0, .bool false, .bool false]) (t := 24) ?hr ?_; (case hd => rfl); (case hg => rfl); (case hr => first | (go_simp; done) | (go_simp; rfl)); intro gb172 hg w19 hbox hb; have n0_ := Aside0.mk (Kd.R_below (by (with_reducible repeat apply pR); exact HO161.out) hb); have n1_ := Aside0.mk (Kd.V_below (Kd.V_elderB (by (with_reducible repeat apply pV); exact HO167.out) gb172 (Nat.le_of_eq hg.symm)) hb); have n2_ := Aside0.mk (blk_below (g := gb162) (o := .cells #[.int .i64 2, .int .i64 2, .slice Ao13 y159.length co13, .int .i64 0, .bool false, .bool false] 24 (0, 0)) (by (with_reducible repeat apply pK); exact BK162.out) hb); have n3_ := Aside0.mk (below_step bl_ hb); have n4_ := Aside0.mk (hbox); have n5_ := Aside0.mk ((le_new hg (below_size bl_) : w.heap.size ≤ gb172)); have n6_ := Aside0.mk ((le_new hg (below_size bl_) : w.heap.size ≤ gb172)); have n7_ := Aside0.mk ((by rw [hg]; exact Nat.ne_of_lt (blk_lt (g := gb162) (o := .cells #[.int .i64 2, .int .i64 2, .slice Ao13 y159.length co13, .int .i64 0, .bool false, .bool false] 24 (0, 0)) (by (with_reducible repeat apply pK); exact BK162.out)) : gb162 ≠ gb172)); have n8_ := Aside0.mk ((by rw [hg]; exact Nat.ne_of_gt (blk_lt (g := gb162) (o := .cells #[.int .i64 2, .int .i64 2, .slice Ao13 y159.length co13, .int .i64 0, .bool false, .bool false] 24 (0, 0)) (by (with_reducible repeat apply pK); exact BK162.out)) : gb172 ≠ gb162)); clear HO161; clear HO167; clear BK162; clear HB; have HO161 := n0_; have HO167 := n1_; have BK162 := n2_; have HB := n3_; have BK172 := n4_; have GW172 := n5_; have GE172 := n6_; have NB162_172 := n7_; have NB172_162 := n8_; clear n0_ n1_ n2_ n3_ n4_ n5_ n6_ n7_ n8_; clear hb hbox hg; have hnb20 := NB172_162.out; have hnc20 := NB162_172.out; obtain ⟨hcz21_0, hcz21_1, hcz21_2, hcz21_3, hcz21_4, hcz21_5, hfz21_0, hfz21_1, hfz21_2, hfz21_3, hfz21_4, hfz21_5⟩ := cells6 (show w19.heap[gb172]? = some (.cells #[.int .i64 0, .int .i64 0, .slice none 0 0, .int .i64 0, .bool false, .bool false] _ (0, 0)) from BK172.out); obtain ⟨Ao22, co22, eo22⟩ := Kd.V_slice HO167.out; subst eo22) | ((with_reducible refine gate_store (t := 24) (p := 2) rfl ?_); refine store_event (t := 24) (p := 2) (v := ?vo_w23) (w1 := ((((((w19.setCell ⟨gb172, 0, none⟩ (.int .i64 t163)).setCell ⟨gb172, 1, none⟩ (.int .i64 t164)).setCell ⟨gb172, 2, none⟩ (.slice Ao22 t165.length co22)).setCell ⟨gb172, 3, none⟩ (.int .i64 t168)).setCell ⟨gb172, 4, none⟩ (.bool t169)).setCell ⟨gb172, 5, none⟩ (.bool t170))) ?hg ?ho ?hn ?hr ?_; (case ho => rfl); (case hg => rfl); (case hn => rfl); (case hr => first | (go_simp; done) | (go_simp; rfl)); intro w23 hw; have n0_ : Aside0 (Kd.R k44 44 w23 w.heap.size (fun _ => True) (.slice Ao13 y159.length co13) y159) := ⟨(by rw [hw]; exact (by (with_reducible repeat apply pR); exact Kd.R_mono (Kd.R_far (p := ⟨gb172, 5, none⟩) (Kd.R_far (p := ⟨gb172, 4, none⟩) (Kd.R_far (p := ⟨gb172, 3, none⟩) (Kd.R_far (p := ⟨gb172, 2, none⟩) (Kd.R_far (p := ⟨gb172, 1, none⟩) (Kd.R_far (p := ⟨gb172, 0, none⟩) (Kd.R_types HO161.out BK172.out (by decide)) (fun _ hk => hk.2) (.int .i64 t163)) (fun _ hk => hk.2) (.int .i64 t164)) (fun _ hk => hk.2) (.slice Ao22 t165.length co22)) (fun _ hk => hk.2) (.int .i64 t168)) (fun _ hk => hk.2) (.bool t169)) (fun _ hk => hk.2) (.bool t170)) (fun _ hk => trivial)))⟩; have n1_ : Aside0 (Kd.V k44 44 w23 w.heap.size (fun k_ => k_ ≠ gb162 ∧ k_ ≠ gb172) (.slice Ao22 t165.length co22) t165) := ⟨(by rw [hw]; exact (by (with_reducible repeat apply pV); exact Kd.V_mono (Kd.V_far (p := ⟨gb172, 5, none⟩) (Kd.V_far (p := ⟨gb172, 4, none⟩) (Kd.V_far (p := ⟨gb172, 3, none⟩) (Kd.V_far (p := ⟨gb172, 2, none⟩) (Kd.V_far (p := ⟨gb172, 1, none⟩) (Kd.V_far (p := ⟨gb172, 0, none⟩) (Kd.V_mono HO167.out (fun k_ hk => (⟨hk, hk.2⟩ : _ ∧ k_ ≠ gb172))) (fun _ hk => hk.2) (.int .i64 t163)) (fun _ hk => hk.2) (.int .i64 t164)) (fun _ hk => hk.2) (.slice Ao22 t165.length co22)) (fun _ hk => hk.2) (.int .i64 t168)) (fun _ hk => hk.2) (.bool t169)) (fun _ hk => hk.2) (.bool t170)) (fun _ hk => ⟨hk.1.1, hk.1.2⟩)))⟩; have n2_ : Aside0 (w23.heap[gb162]? = some (.cells #[.int .i64 2, .int .i64 2, .slice Ao13 y159.length co13, .int .i64 0, .bool false, .bool false] 24 (0, 0))) := ⟨(by rw [hw]; exact (by (with_reducible repeat apply pK); refine blk_far ?_ NB162_172.out _; (with_reducible repeat apply pK); refine blk_far ?_ NB162_172.out _; (with_reducible repeat apply pK); refine blk_far ?_ NB162_172.out _; (with_reducible repeat apply pK); refine blk_far ?_ NB162_172.out _; (with_reducible repeat apply pK); refine blk_far ?_ NB162_172.out _; (with_reducible repeat apply pK); refine blk_far ?_ NB162_172.out _; (with_reducible repeat apply pK); exact BK162.out))⟩; have n3_ : Aside0 (w23.heap[gb172]? = some (.cells #[.int .i64 t163, .int .i64 t164, .slice Ao22 t165.length co22, .int .i64 t168, .bool t169, .bool t170] 24 (0, 0))) := ⟨(by rw [hw]; exact (by (with_reducible repeat apply pK); refine blk_put (cs := #[.int .i64 t163, .int .i64 t164, .slice Ao22 t165.length co22, .int .i64 t168, .bool t169, .bool false]) ?_ 5 _ rfl; (with_reducible repeat apply pK); refine blk_put (cs := #[.int .i64 t163, .int .i64 t164, .slice Ao22 t165.length co22, .int .i64 t168, .bool false, .bool false]) ?_ 4 _ rfl; (with_reducible repeat apply pK); refine blk_put (cs := #[.int .i64 t163, .int .i64 t164, .slice Ao22 t165.length co22, .int .i64 0, .bool false, .bool false]) ?_ 3 _ rfl; (with_reducible repeat apply pK); refine blk_put (cs := #[.int .i64 t163, .int .i64 t164, .slice none 0 0, .int .i64 0, .bool false, .bool false]) ?_ 2 _ rfl; (with_reducible repeat apply pK); refine blk_put (cs := #[.int .i64 t163, .int .i64 0, .slice none 0 0, .int .i64 0, .bool false, .bool false]) ?_ 1 _ rfl; (with_reducible repeat apply pK); refine blk_put (cs := #[.int .i64 0, .int .i64 0, .slice none 0 0, .int .i64 0, .bool false, .bool false]) ?_ 0 _ rfl; (with_reducible repeat apply pK); exact BK172.out))⟩; have n4_ : Aside0 (Below w.heap.size w w23) := ⟨(by rw [hw]; exact bl_)⟩; clear hw; clear HO161; clear HO167; clear BK162; clear BK172; clear HB; have HO161 := n0_; have HO167 := n1_; have BK162 := n2_; have BK172 := n3_; have HB := n4_; clear n0_ n1_ n2_ n3_ n4_; obtain ⟨hcz24_0, hcz24_1, hcz24_2, hcz24_3, hcz24_4, hcz24_5, hfz24_0, hfz24_1, hfz24_2, hfz24_3, hfz24_4, hfz24_5⟩ := cells6 (show w23.heap[gb172]? = some (.cells #[.int .i64 t163, .int .i64 t164, .slice Ao22 t165.length co22, .int .i64 t168, .bool t169, .bool t170] _ (0, 0)) from BK172.out)) | ((with_reducible refine gate_callee (f := 10) rfl ?_); refine goesL_ (some 22) rfl rfl Tryd.func10 (by kernel_rfl) rfl #[.agg #[.int .i64 t163, .int .i64 t164, .slice Ao22 t165.length co22, .int .i64 t168, .bool t169, .bool t170], .int .i64 5] rfl ag_ ?_; (with_reducible refine (move_Do.calls k t163 t164 (fun k_ => (k_ ≠ gb162 ∧ k_ ≠ gb172)) _ _ t165 t168 t169 t170 5 t173 t174 t175 t178 t179 t180 none _ ?side1 A2.out).mono ?_); (case side1 => exact HO167.out); rintro e w25 ⟨v176, rfl, ho0, hb⟩; refine ⟨_, rfl, ?_⟩; have n0_ := Aside0.mk (Kd.R_below (by (with_reducible repeat apply pR); exact HO161.out) hb); have n1_ := Aside0.mk (Kd.V_below (by (with_reducible repeat apply pV); exact HO167.out) hb); have n2_ := Aside0.mk (Kd.V_lower (Kd.V_mono (ok' := fun k_ => k_ ≠ gb162 ∧ k_ ≠ gb172) ho0 (fun k_ hk_ => ⟨Or.elim hk_ (fun hs_ => hs_.1) (fun hn_ => (Kd.freshB (g := gb162) (o := .cells #[.int .i64 2, .int .i64 2, .slice Ao13 y159.length co13, .int .i64 0, .bool false, .bool false] 24 (0, 0)) (by (with_reducible repeat apply pK); exact BK162.out) k_ hn_)), Or.elim hk_ (fun hs_ => hs_.2) (fun hn_ => (Kd.freshB (g := gb172) (o := .cells #[.int .i64 t163, .int .i64 t164, .slice Ao22 t165.length co22, .int .i64 t168, .bool t169, .bool t170] 24 (0, 0)) (by (with_reducible repeat apply pK); exact BK172.out) k_ hn_))⟩)) (below_size bl_)); have n3_ := Aside0.mk (blk_below (g := gb162) (o := .cells #[.int .i64 2, .int .i64 2, .slice Ao13 y159.length co13, .int .i64 0, .bool false, .bool false] 24 (0, 0)) (by (with_reducible repeat apply pK); exact BK162.out) hb); have n4_ := Aside0.mk (blk_below (g := gb172) (o := .cells #[.int .i64 t163, .int .i64 t164, .slice Ao22 t165.length co22, .int .i64 t168, .bool t169, .bool t170] 24 (0, 0)) (by (with_reducible repeat apply pK); exact BK172.out) hb); have n5_ := Aside0.mk (below_step bl_ hb); clear HO161; clear HO167; clear BK162; clear BK172; clear HB; have HO161 := n0_; have HO167 := n1_; have HO177 := n2_; have BK162 := n3_; have BK172 := n4_; have HB := n5_; clear n0_ n1_ n2_ n3_ n4_ n5_; (try clear hb); (try clear hb2); (try clear hk); (try clear hi); (try clear ho0); (try simp only [errW_none, errW_some])) | ((with_reducible refine gate_dst (N := 4) rfl ?_); refine box_event ?hg (N := 4) ?hd (cs := #[.int .i64 0, .int .i64 0, .slice none 0 0, .int .i64 0, .bool false, .bool false]) (t := 24) ?hr ?_; (case hd => rfl); (case hg => rfl); (case hr => first | (go_simp; done) | (go_simp; rfl)); intro gb182 hg w26 hbox hb; have n0_ := Aside0.mk (Kd.R_below (by (with_reducible repeat apply pR); exact HO161.out) hb); have n1_ := Aside0.mk (Kd.V_below (Kd.V_elderB (by (with_reducible repeat apply pV); exact HO167.out) gb182 (Nat.le_of_eq hg.symm)) hb); have n2_ := Aside0.mk (Kd.V_below (Kd.V_elderB (by (with_reducible repeat apply pV); exact HO177.out) gb182 (Nat.le_of_eq hg.symm)) hb); have n3_ := Aside0.mk (blk_below (g := gb162) (o := .cells #[.int .i64 2, .int .i64 2, .slice Ao13 y159.length co13, .int .i64 0, .bool false, .bool false] 24 (0, 0)) (by (with_reducible repeat apply pK); exact BK162.out) hb); have n4_ := Aside0.mk (blk_below (g := gb172) (o := .cells #[.int .i64 t163, .int .i64 t164, .slice Ao22 t165.length co22, .int .i64 t168, .bool t169, .bool t170] 24 (0, 0)) (by (with_reducible repeat apply pK); exact BK172.out) hb); have n5_ := Aside0.mk (below_step bl_ hb); have n6_ := Aside0.mk (hbox); have n7_ := Aside0.mk ((le_new hg (below_size bl_) : w.heap.size ≤ gb182)); have n8_ := Aside0.mk ((le_new hg (below_size bl_) : w.heap.size ≤ gb182)); have n9_ := Aside0.mk ((by rw [hg]; exact Nat.ne_of_lt (blk_lt (g := gb162) (o := .cells #[.int .i64 2, .int .i64 2, .slice Ao13 y159.length co13, .int .i64 0, .bool false, .bool false] 24 (0, 0)) (by (with_reducible repeat apply pK); exact BK162.out)) : gb162 ≠ gb182)); have n10_ := Aside0.mk ((by rw [hg]; exact Nat.ne_of_gt (blk_lt (g := gb162) (o := .cells #[.int .i64 2, .int .i64 2, .slice Ao13 y159.length co13, .int .i64 0, .bool false, .bool false] 24 (0, 0)) (by (with_reducible repeat apply pK); exact BK162.out)) : gb182 ≠ gb162)); have n11_ := Aside0.mk ((by rw [hg]; exact Nat.ne_of_lt (blk_lt (g := gb172) (o := .cells #[.int .i64 t163, .int .i64 t164, .slice Ao22 t165.length co22, .int .i64 t168, .bool t169, .bool t170] 24 (0, 0)) (by (with_reducible repeat apply pK); exact BK172.out)) : gb172 ≠ gb182)); have n12_ := Aside0.mk ((by rw [hg]; exact Nat.ne_of_gt (blk_lt (g := gb172) (o := .cells #[.int .i64 t163, .int .i64 t164, .slice Ao22 t165.length co22, .int .i64 t168, .bool t169, .bool t170] 24 (0, 0)) (by (with_reducible repeat apply pK); exact BK172.out)) : gb182 ≠ gb172)); clear HO161; clear HO167; clear HO177; clear BK162; clear BK172; clear HB; have HO161 := n0_; have HO167 := n1_; have HO177 := n2_; have BK162 := n3_; have BK172 := n4_; have HB := n5_; have BK182 := n6_; have GW182 := n7_; have GE182 := n8_; have NB162_182 := n9_; have NB182_162 := n10_; have NB172_182 := n11_; have NB182_172 := n12_; clear n0_ n1_ n2_ n3_ n4_ n5_ n6_ n7_ n8_ n9_ n10_ n11_ n12_; clear hb hbox hg; have hnb27 := NB182_162.out; have hnc27 := NB162_182.out; have hnb28 := NB182_172.out; have hnc28 := NB172_182.out; obtain ⟨hcz29_0, hcz29_1, hcz29_2, hcz29_3, hcz29_4, hcz29_5, hfz29_0, hfz29_1, hfz29_2, hfz29_3, hfz29_4, hfz29_5⟩ := cells6 (show w26.heap[gb182]? = some (.cells #[.int .i64 0, .int .i64 0, .slice none 0 0, .int .i64 0, .bool false, .bool false] _ (0, 0)) from BK182.out); obtain ⟨Ao30, co30, eo30⟩ := Kd.V_slice HO177.out; subst eo30) | ((with_reducible refine gate_store (t := 24) (p := 4) rfl ?_); refine store_event (t := 24) (p := 4) (v := ?vo_w31) (w1 := ((((((w26.setCell ⟨gb182, 0, none⟩ (.int .i64 t173)).setCell ⟨gb182, 1, none⟩ (.int .i64 t174)).setCell ⟨gb182, 2, none⟩ (.slice Ao30 t175.length co30)).setCell ⟨gb182, 3, none⟩ (.int .i64 t178)).setCell ⟨gb182, 4, none⟩ (.bool t179)).setCell ⟨gb182, 5, none⟩ (.bool t180))) ?hg ?ho ?hn ?hr ?_; (case ho => rfl); (case hg => rfl); (case hn => rfl); (case hr => first | (go_simp; done) | (go_simp; rfl)); intro w31 hw; have n0_ : Aside0 (Kd.R k44 44 w31 w.heap.size (fun _ => True) (.slice Ao13 y159.length co13) y159) := ⟨(by rw [hw]; exact (by (with_reducible repeat apply pR); exact Kd.R_mono (Kd.R_far (p := ⟨gb182, 5, none⟩) (Kd.R_far (p := ⟨gb182, 4, none⟩) (Kd.R_far (p := ⟨gb182, 3, none⟩) (Kd.R_far (p := ⟨gb182, 2, none⟩) (Kd.R_far (p := ⟨gb182, 1, none⟩) (Kd.R_far (p := ⟨gb182, 0, none⟩) (Kd.R_types HO161.out BK182.out (by decide)) (fun _ hk => hk.2) (.int .i64 t173)) (fun _ hk => hk.2) (.int .i64 t174)) (fun _ hk => hk.2) (.slice Ao30 t175.length co30)) (fun _ hk => hk.2) (.int .i64 t178)) (fun _ hk => hk.2) (.bool t179)) (fun _ hk => hk.2) (.bool t180)) (fun _ hk => trivial)))⟩; have n1_ : Aside0 (Kd.V k44 44 w31 w.heap.size (fun k_ => k_ ≠ gb162 ∧ k_ ≠ gb172 ∧ k_ ≠ gb182) (.slice Ao22 t165.length co22) t165) := ⟨(by rw [hw]; exact (by (with_reducible repeat apply pV); exact Kd.V_mono (Kd.V_far (p := ⟨gb182, 5, none⟩) (Kd.V_far (p := ⟨gb182, 4, none⟩) (Kd.V_far (p := ⟨gb182, 3, none⟩) (Kd.V_far (p := ⟨gb182, 2, none⟩) (Kd.V_far (p := ⟨gb182, 1, none⟩) (Kd.V_far (p := ⟨gb182, 0, none⟩) (Kd.V_mono HO167.out (fun k_ hk => (⟨hk, hk.2⟩ : _ ∧ k_ ≠ gb182))) (fun _ hk => hk.2) (.int .i64 t173)) (fun _ hk => hk.2) (.int .i64 t174)) (fun _ hk => hk.2) (.slice Ao30 t175.length co30)) (fun _ hk => hk.2) (.int .i64 t178)) (fun _ hk => hk.2) (.bool t179)) (fun _ hk => hk.2) (.bool t180)) (fun _ hk => ⟨hk.1.1.1, ⟨hk.1.1.2, hk.1.2⟩⟩)))⟩; have n2_ : Aside0 (Kd.V k44 44 w31 w.heap.size (fun k_ => k_ ≠ gb162 ∧ k_ ≠ gb172 ∧ k_ ≠ gb182) (.slice Ao30 t175.length co30) t175) := ⟨(by rw [hw]; exact (by (with_reducible repeat apply pV); exact Kd.V_mono (Kd.V_far (p := ⟨gb182, 5, none⟩) (Kd.V_far (p := ⟨gb182, 4, none⟩) (Kd.V_far (p := ⟨gb182, 3, none⟩) (Kd.V_far (p := ⟨gb182, 2, none⟩) (Kd.V_far (p := ⟨gb182, 1, none⟩) (Kd.V_far (p := ⟨gb182, 0, none⟩) (Kd.V_mono HO177.out (fun k_ hk => (⟨hk, hk.2⟩ : _ ∧ k_ ≠ gb182))) (fun _ hk => hk.2) (.int .i64 t173)) (fun _ hk => hk.2) (.int .i64 t174)) (fun _ hk => hk.2) (.slice Ao30 t175.length co30)) (fun _ hk => hk.2) (.int .i64 t178)) (fun _ hk => hk.2) (.bool t179)) (fun _ hk => hk.2) (.bool t180)) (fun _ hk => ⟨hk.1.1.1, ⟨hk.1.1.2, hk.1.2⟩⟩)))⟩; have n3_ : Aside0 (w31.heap[gb162]? = some (.cells #[.int .i64 2, .int .i64 2, .slice Ao13 y159.length co13, .int .i64 0, .bool false, .bool false] 24 (0, 0))) := ⟨(by rw [hw]; exact (by (with_reducible repeat apply pK); refine blk_far ?_ NB162_182.out _; (with_reducible repeat apply pK); refine blk_far ?_ NB162_182.out _; (with_reducible repeat apply pK); refine blk_far ?_ NB162_182.out _; (with_reducible repeat apply pK); refine blk_far ?_ NB162_182.out _; (with_reducible repeat apply pK); refine blk_far ?_ NB162_182.out _; (with_reducible repeat apply pK); refine blk_far ?_ NB162_182.out _; (with_reducible repeat apply pK); exact BK162.out))⟩; have n4_ : Aside0 (w31.heap[gb172]? = some (.cells #[.int .i64 t163, .int .i64 t164, .slice Ao22 t165.length co22, .int .i64 t168, .bool t169, .bool t170] 24 (0, 0))) := ⟨(by rw [hw]; exact (by (with_reducible repeat apply pK); refine blk_far ?_ NB172_182.out _; (with_reducible repeat apply pK); refine blk_far ?_ NB172_182.out _; (with_reducible repeat apply pK); refine blk_far ?_ NB172_182.out _; (with_reducible repeat apply pK); refine blk_far ?_ NB172_182.out _; (with_reducible repeat apply pK); refine blk_far ?_ NB172_182.out _; (with_reducible repeat apply pK); refine blk_far ?_ NB172_182.out _; (with_reducible repeat apply pK); exact BK172.out))⟩; have n5_ : Aside0 (w31.heap[gb182]? = some (.cells #[.int .i64 t173, .int .i64 t174, .slice Ao30 t175.length co30, .int .i64 t178, .bool t179, .bool t180] 24 (0, 0))) := ⟨(by rw [hw]; exact (by (with_reducible repeat apply pK); refine blk_put (cs := #[.int .i64 t173, .int .i64 t174, .slice Ao30 t175.length co30, .int .i64 t178, .bool t179, .bool false]) ?_ 5 _ rfl; (with_reducible repeat apply pK); refine blk_put (cs := #[.int .i64 t173, .int .i64 t174, .slice Ao30 t175.length co30, .int .i64 t178, .bool false, .bool false]) ?_ 4 _ rfl; (with_reducible repeat apply pK); refine blk_put (cs := #[.int .i64 t173, .int .i64 t174, .slice Ao30 t175.length co30, .int .i64 0, .bool false, .bool false]) ?_ 3 _ rfl; (with_reducible repeat apply pK); refine blk_put (cs := #[.int .i64 t173, .int .i64 t174, .slice none 0 0, .int .i64 0, .bool false, .bool false]) ?_ 2 _ rfl; (with_reducible repeat apply pK); refine blk_put (cs := #[.int .i64 t173, .int .i64 0, .slice none 0 0, .int .i64 0, .bool false, .bool false]) ?_ 1 _ rfl; (with_reducible repeat apply pK); refine blk_put (cs := #[.int .i64 0, .int .i64 0, .slice none 0 0, .int .i64 0, .bool false, .bool false]) ?_ 0 _ rfl; (with_reducible repeat apply pK); exact BK182.out))⟩; have n6_ : Aside0 (Below w.heap.size w w31) := ⟨(by rw [hw]; exact bl_)⟩; clear hw; clear HO161; clear HO167; clear HO177; clear BK162; clear BK172; clear BK182; clear HB; have HO161 := n0_; have HO167 := n1_; have HO177 := n2_; have BK162 := n3_; have BK172 := n4_; have BK182 := n5_; have HB := n6_; clear n0_ n1_ n2_ n3_ n4_ n5_ n6_; obtain ⟨hcz32_0, hcz32_1, hcz32_2, hcz32_3, hcz32_4, hcz32_5, hfz32_0, hfz32_1, hfz32_2, hfz32_3, hfz32_4, hfz32_5⟩ := cells6 (show w31.heap[gb162]? = some (.cells #[.int .i64 2, .int .i64 2, .slice Ao13 y159.length co13, .int .i64 0, .bool false, .bool false] _ (0, 0)) from BK162.out)) | ((with_reducible refine gate_callee (f := 10) rfl ?_); refine goesL_ (some 27) rfl rfl Tryd.func10 (by kernel_rfl) rfl #[.agg #[.int .i64 2, .int .i64 2, .slice Ao13 y159.length co13, .int .i64 0, .bool false, .bool false], .int .i64 1] rfl ag_ ?_; (with_reducible refine (move_Do.calls k 2 2 (fun k_ => some k_ = (.slice Ao13 y159.length co13 : Value).ownBlock) _ _ y159 0 false false 1 t183 t184 t185 t188 t189 t190 t191 _ ?side1 A3.out).mono ?_); (case side1 => exact Kd.R_V (Kd.R_tight rfl (Kd.R_types (Kd.R_types (Kd.R_types (HO161.out) BK162.out (by decide)) BK172.out (by decide)) BK182.out (by decide)))); rintro e w33 ⟨v186, rfl, ho0, hb⟩; refine ⟨_, rfl, ?_⟩; have n0_ := Aside0.mk (Kd.R_below (by (with_reducible repeat apply pR); exact HO161.out) hb); have n1_ := Aside0.mk (Kd.V_below (by (with_reducible repeat apply pV); exact HO167.out) hb); have n2_ := Aside0.mk (Kd.V_below (by (with_reducible repeat apply pV); exact HO177.out) hb); have n3_ := Aside0.mk (Kd.V_lower (Kd.V_mono (ok' := fun k_ => k_ ≠ gb162 ∧ k_ ≠ gb172 ∧ k_ ≠ gb182) ho0 (fun k_ hk_ => ⟨Or.elim hk_ (fun hs_ => ((Kd.R_types (Kd.R_types (Kd.R_types (HO161.out) BK162.out (by decide)) BK172.out (by decide)) BK182.out (by decide)).1 k_ hs_.symm).1.1.2) (fun hn_ => (Kd.freshB (g := gb162) (o := .cells #[.int .i64 2, .int .i64 2, .slice Ao13 y159.length co13, .int .i64 0, .bool false, .bool false] 24 (0, 0)) (by (with_reducible repeat apply pK); exact BK162.out) k_ hn_)), Or.elim hk_ (fun hs_ => ((Kd.R_types (Kd.R_types (Kd.R_types (HO161.out) BK162.out (by decide)) BK172.out (by decide)) BK182.out (by decide)).1 k_ hs_.symm).1.2) (fun hn_ => (Kd.freshB (g := gb172) (o := .cells #[.int .i64 t163, .int .i64 t164, .slice Ao22 t165.length co22, .int .i64 t168, .bool t169, .bool t170] 24 (0, 0)) (by (with_reducible repeat apply pK); exact BK172.out) k_ hn_)), Or.elim hk_ (fun hs_ => ((Kd.R_types (Kd.R_types (Kd.R_types (HO161.out) BK162.out (by decide)) BK172.out (by decide)) BK182.out (by decide)).1 k_ hs_.symm).2) (fun hn_ => (Kd.freshB (g := gb182) (o := .cells #[.int .i64 t173, .int .i64 t174, .slice Ao30 t175.length co30, .int .i64 t178, .bool t179, .bool t180] 24 (0, 0)) (by (with_reducible repeat apply pK); exact BK182.out) k_ hn_))⟩)) (below_size bl_)); have n4_ := Aside0.mk (blk_below (g := gb162) (o := .cells #[.int .i64 2, .int .i64 2, .slice Ao13 y159.length co13, .int .i64 0, .bool false, .bool false] 24 (0, 0)) (by (with_reducible repeat apply pK); exact BK162.out) hb); have n5_ := Aside0.mk (blk_below (g := gb172) (o := .cells #[.int .i64 t163, .int .i64 t164, .slice Ao22 t165.length co22, .int .i64 t168, .bool t169, .bool t170] 24 (0, 0)) (by (with_reducible repeat apply pK); exact BK172.out) hb); have n6_ := Aside0.mk (blk_below (g := gb182) (o := .cells #[.int .i64 t173, .int .i64 t174, .slice Ao30 t175.length co30, .int .i64 t178, .bool t179, .bool t180] 24 (0, 0)) (by (with_reducible repeat apply pK); exact BK182.out) hb); have n7_ := Aside0.mk (below_step bl_ hb); clear HO161; clear HO167; clear HO177; clear BK162; clear BK172; clear BK182; clear HB; have HO161 := n0_; have HO167 := n1_; have HO177 := n2_; have HO187 := n3_; have BK162 := n4_; have BK172 := n5_; have BK182 := n6_; have HB := n7_; clear n0_ n1_ n2_ n3_ n4_ n5_ n6_ n7_; (try clear hb); (try clear hb2); (try clear hk); (try clear hi); (try clear ho0); (try simp only [errW_none, errW_some])) | ((with_reducible refine gate_dst (N := 6) rfl ?_); refine box_event ?hg (N := 6) ?hd (cs := #[.int .i64 0, .int .i64 0, .slice none 0 0, .int .i64 0, .bool false, .bool false]) (t := 24) ?hr ?_; (case hd => rfl); (case hg => rfl); (case hr => first | (go_simp; done) | (go_simp; rfl)); intro gb192 hg w34 hbox hb; have n0_ := Aside0.mk (Kd.R_below (by (with_reducible repeat apply pR); exact HO161.out) hb); have n1_ := Aside0.mk (Kd.V_below (Kd.V_elderB (by (with_reducible repeat apply pV); exact HO167.out) gb192 (Nat.le_of_eq hg.symm)) hb); have n2_ := Aside0.mk (Kd.V_below (Kd.V_elderB (by (with_reducible repeat apply pV); exact HO177.out) gb192 (Nat.le_of_eq hg.symm)) hb); have n3_ := Aside0.mk (Kd.V_below (Kd.V_elderB (by (with_reducible repeat apply pV); exact HO187.out) gb192 (Nat.le_of_eq hg.symm)) hb); have n4_ := Aside0.mk (blk_below (g := gb162) (o := .cells #[.int .i64 2, .int .i64 2, .slice Ao13 y159.length co13, .int .i64 0, .bool false, .bool false] 24 (0, 0)) (by (with_reducible repeat apply pK); exact BK162.out) hb); have n5_ := Aside0.mk (blk_below (g := gb172) (o := .cells #[.int .i64 t163, .int .i64 t164, .slice Ao22 t165.length co22, .int .i64 t168, .bool t169, .bool t170] 24 (0, 0)) (by (with_reducible repeat apply pK); exact BK172.out) hb); have n6_ := Aside0.mk (blk_below (g := gb182) (o := .cells #[.int .i64 t173, .int .i64 t174, .slice Ao30 t175.length co30, .int .i64 t178, .bool t179, .bool t180] 24 (0, 0)) (by (with_reducible repeat apply pK); exact BK182.out) hb); have n7_ := Aside0.mk (below_step bl_ hb); have n8_ := Aside0.mk (hbox); have n9_ := Aside0.mk ((le_new hg (below_size bl_) : w.heap.size ≤ gb192)); have n10_ := Aside0.mk ((le_new hg (below_size bl_) : w.heap.size ≤ gb192)); have n11_ := Aside0.mk ((by rw [hg]; exact Nat.ne_of_lt (blk_lt (g := gb162) (o := .cells #[.int .i64 2, .int .i64 2, .slice Ao13 y159.length co13, .int .i64 0, .bool false, .bool false] 24 (0, 0)) (by (with_reducible repeat apply pK); exact BK162.out)) : gb162 ≠ gb192)); have n12_ := Aside0.mk ((by rw [hg]; exact Nat.ne_of_gt (blk_lt (g := gb162) (o := .cells #[.int .i64 2, .int .i64 2, .slice Ao13 y159.length co13, .int .i64 0, .bool false, .bool false] 24 (0, 0)) (by (with_reducible repeat apply pK); exact BK162.out)) : gb192 ≠ gb162)); have n13_ := Aside0.mk ((by rw [hg]; exact Nat.ne_of_lt (blk_lt (g := gb172) (o := .cells #[.int .i64 t163, .int .i64 t164, .slice Ao22 t165.length co22, .int .i64 t168, .bool t169, .bool t170] 24 (0, 0)) (by (with_reducible repeat apply pK); exact BK172.out)) : gb172 ≠ gb192)); have n14_ := Aside0.mk ((by rw [hg]; exact Nat.ne_of_gt (blk_lt (g := gb172) (o := .cells #[.int .i64 t163, .int .i64 t164, .slice Ao22 t165.length co22, .int .i64 t168, .bool t169, .bool t170] 24 (0, 0)) (by (with_reducible repeat apply pK); exact BK172.out)) : gb192 ≠ gb172)); have n15_ := Aside0.mk ((by rw [hg]; exact Nat.ne_of_lt (blk_lt (g := gb182) (o := .cells #[.int .i64 t173, .int .i64 t174, .slice Ao30 t175.length co30, .int .i64 t178, .bool t179, .bool t180] 24 (0, 0)) (by (with_reducible repeat apply pK); exact BK182.out)) : gb182 ≠ gb192)); have n16_ := Aside0.mk ((by rw [hg]; exact Nat.ne_of_gt (blk_lt (g := gb182) (o := .cells #[.int .i64 t173, .int .i64 t174, .slice Ao30 t175.length co30, .int .i64 t178, .bool t179, .bool t180] 24 (0, 0)) (by (with_reducible repeat apply pK); exact BK182.out)) : gb192 ≠ gb182)); clear HO161; clear HO167; clear HO177; clear HO187; clear BK162; clear BK172; clear BK182; clear HB; have HO161 := n0_; have HO167 := n1_; have HO177 := n2_; have HO187 := n3_; have BK162 := n4_; have BK172 := n5_; have BK182 := n6_; have HB := n7_; have BK192 := n8_; have GW192 := n9_; have GE192 := n10_; have NB162_192 := n11_; have NB192_162 := n12_; have NB172_192 := n13_; have NB192_172 := n14_; have NB182_192 := n15_; have NB192_182 := n16_; clear n0_ n1_ n2_ n3_ n4_ n5_ n6_ n7_ n8_ n9_ n10_ n11_ n12_ n13_ n14_ n15_ n16_; clear hb hbox hg; have hnb35 := NB192_162.out; have hnc35 := NB162_192.out; have hnb36 := NB192_172.out; have hnc36 := NB172_192.out; have hnb37 := NB192_182.out; have hnc37 := NB182_192.out; obtain ⟨hcz38_0, hcz38_1, hcz38_2, hcz38_3, hcz38_4, hcz38_5, hfz38_0, hfz38_1, hfz38_2, hfz38_3, hfz38_4, hfz38_5⟩ := cells6 (show w34.heap[gb192]? = some (.cells #[.int .i64 0, .int .i64 0, .slice none 0 0, .int .i64 0, .bool false, .bool false] _ (0, 0)) from BK192.out); obtain ⟨Ao39, co39, eo39⟩ := Kd.V_slice HO187.out; subst eo39; obtain ⟨hcz40_0, hcz40_1, hcz40_2, hcz40_3, hcz40_4, hcz40_5, hfz40_0, hfz40_1, hfz40_2, hfz40_3, hfz40_4, hfz40_5⟩ := cells6 (show w34.heap[gb172]? = some (.cells #[.int .i64 t163, .int .i64 t164, .slice Ao22 t165.length co22, .int .i64 t168, .bool t169, .bool t170] _ (0, 0)) from BK172.out); obtain ⟨hcz41_0, hcz41_1, hcz41_2, hcz41_3, hcz41_4, hcz41_5, hfz41_0, hfz41_1, hfz41_2, hfz41_3, hfz41_4, hfz41_5⟩ := cells6 (show w34.heap[gb182]? = some (.cells #[.int .i64 t173, .int .i64 t174, .slice Ao30 t175.length co30, .int .i64 t178, .bool t179, .bool t180] _ (0, 0)) from BK182.out); have CA6 := fun W hG_ => api_Code.calls t191 t195 W hG_ A6.out; try simp only [errW_none, errW_some] at CA6) | (go_at_call 13; (with_reducible refine (CA6 _ ?sideG).mono ?_); (case sideG => exact laidG_below HG.out bl_ rfl); rintro e w42 ⟨rfl, hb⟩; have n0_ := Aside0.mk (Kd.R_below (by (with_reducible repeat apply pR); exact (Kd.R_mono (Kd.R_far (p := ⟨gb192, 5, none⟩) (Kd.R_far (p := ⟨gb192, 4, none⟩) (Kd.R_far (p := ⟨gb192, 3, none⟩) (Kd.R_far (p := ⟨gb192, 2, none⟩) (Kd.R_far (p := ⟨gb192, 1, none⟩) (Kd.R_far (p := ⟨gb192, 0, none⟩) (Kd.R_types HO161.out BK192.out (by decide)) (fun _ hk => hk.2) (.int .i64 t183)) (fun _ hk => hk.2) (.int .i64 t184)) (fun _ hk => hk.2) (.slice Ao39 t185.length co39)) (fun _ hk => hk.2) (.int .i64 t188)) (fun _ hk => hk.2) (.bool t189)) (fun _ hk => hk.2) (.bool t190)) (fun _ h_ => h_.1))) hb); have n1_ := Aside0.mk (Kd.V_below (by (with_reducible repeat apply pV); exact (Kd.V_mono (Kd.V_far (p := ⟨gb192, 5, none⟩) (Kd.V_far (p := ⟨gb192, 4, none⟩) (Kd.V_far (p := ⟨gb192, 3, none⟩) (Kd.V_far (p := ⟨gb192, 2, none⟩) (Kd.V_far (p := ⟨gb192, 1, none⟩) (Kd.V_far (p := ⟨gb192, 0, none⟩) (Kd.V_mono HO167.out (fun k_ hk => (⟨hk, hk.2⟩ : _ ∧ k_ ≠ gb192))) (fun _ hk => hk.2) (.int .i64 t183)) (fun _ hk => hk.2) (.int .i64 t184)) (fun _ hk => hk.2) (.slice Ao39 t185.length co39)) (fun _ hk => hk.2) (.int .i64 t188)) (fun _ hk => hk.2) (.bool t189)) (fun _ hk => hk.2) (.bool t190)) (fun _ h_ => h_.1))) hb); have n2_ := Aside0.mk (Kd.V_below (by (with_reducible repeat apply pV); exact (Kd.V_mono (Kd.V_far (p := ⟨gb192, 5, none⟩) (Kd.V_far (p := ⟨gb192, 4, none⟩) (Kd.V_far (p := ⟨gb192, 3, none⟩) (Kd.V_far (p := ⟨gb192, 2, none⟩) (Kd.V_far (p := ⟨gb192, 1, none⟩) (Kd.V_far (p := ⟨gb192, 0, none⟩) (Kd.V_mono HO177.out (fun k_ hk => (⟨hk, hk.2⟩ : _ ∧ k_ ≠ gb192))) (fun _ hk => hk.2) (.int .i64 t183)) (fun _ hk => hk.2) (.int .i64 t184)) (fun _ hk => hk.2) (.slice Ao39 t185.length co39)) (fun _ hk => hk.2) (.int .i64 t188)) (fun _ hk => hk.2) (.bool t189)) (fun _ hk => hk.2) (.bool t190)) (fun _ h_ => h_.1))) hb); have n3_ := Aside0.mk (Kd.V_below (by (with_reducible repeat apply pV); exact (Kd.V_mono (Kd.V_far (p := ⟨gb192, 5, none⟩) (Kd.V_far (p := ⟨gb192, 4, none⟩) (Kd.V_far (p := ⟨gb192, 3, none⟩) (Kd.V_far (p := ⟨gb192, 2, none⟩) (Kd.V_far (p := ⟨gb192, 1, none⟩) (Kd.V_far (p := ⟨gb192, 0, none⟩) (Kd.V_mono HO187.out (fun k_ hk => (⟨hk, hk.2⟩ : _ ∧ k_ ≠ gb192))) (fun _ hk => hk.2) (.int .i64 t183)) (fun _ hk => hk.2) (.int .i64 t184)) (fun _ hk => hk.2) (.slice Ao39 t185.length co39)) (fun _ hk => hk.2) (.int .i64 t188)) (fun _ hk => hk.2) (.bool t189)) (fun _ hk => hk.2) (.bool t190)) (fun _ h_ => h_.1))) hb); have n4_ := Aside0.mk (blk_below (g := gb162) (o := .cells #[.int .i64 2, .int .i64 2, .slice Ao13 y159.length co13, .int .i64 0, .bool false, .bool false] 24 (0, 0)) (by (with_reducible repeat apply pK); refine blk_far ?_ NB162_192.out _; (with_reducible repeat apply pK); refine blk_far ?_ NB162_192.out _; (with_reducible repeat apply pK); refine blk_far ?_ NB162_192.out _; (with_reducible repeat apply pK); refine blk_far ?_ NB162_192.out _; (with_reducible repeat apply pK); refine blk_far ?_ NB162_192.out _; (with_reducible repeat apply pK); refine blk_far ?_ NB162_192.out _; (with_reducible repeat apply pK); exact BK162.out) hb); have n5_ := Aside0.mk (blk_below (g := gb172) (o := .cells #[.int .i64 t163, .int .i64 t164, .slice Ao22 t165.length co22, .int .i64 t168, .bool t169, .bool t170] 24 (0, 0)) (by (with_reducible repeat apply pK); refine blk_far ?_ NB172_192.out _; (with_reducible repeat apply pK); refine blk_far ?_ NB172_192.out _; (with_reducible repeat apply pK); refine blk_far ?_ NB172_192.out _; (with_reducible repeat apply pK); refine blk_far ?_ NB172_192.out _; (with_reducible repeat apply pK); refine blk_far ?_ NB172_192.out _; (with_reducible repeat apply pK); refine blk_far ?_ NB172_192.out _; (with_reducible repeat apply pK); exact BK172.out) hb); have n6_ := Aside0.mk (blk_below (g := gb182) (o := .cells #[.int .i64 t173, .int .i64 t174, .slice Ao30 t175.length co30, .int .i64 t178, .bool t179, .bool t180] 24 (0, 0)) (by (with_reducible repeat apply pK); refine blk_far ?_ NB182_192.out _; (with_reducible repeat apply pK); refine blk_far ?_ NB182_192.out _; (with_reducible repeat apply pK); refine blk_far ?_ NB182_192.out _; (with_reducible repeat apply pK); refine blk_far ?_ NB182_192.out _; (with_reducible repeat apply pK); refine blk_far ?_ NB182_192.out _; (with_reducible repeat apply pK); refine blk_far ?_ NB182_192.out _; (with_reducible repeat apply pK); exact BK182.out) hb); have n7_ := Aside0.mk (blk_below (g := gb192) (o := .cells #[.int .i64 t183, .int .i64 t184, .slice Ao39 t185.length co39, .int .i64 t188, .bool t189, .bool t190] 24 (0, 0)) (by (with_reducible repeat apply pK); refine blk_put (cs := #[.int .i64 t183, .int .i64 t184, .slice Ao39 t185.length co39, .int .i64 t188, .bool t189, .bool false]) ?_ 5 _ rfl; (with_reducible repeat apply pK); refine blk_put (cs := #[.int .i64 t183, .int .i64 t184, .slice Ao39 t185.length co39, .int .i64 t188, .bool false, .bool false]) ?_ 4 _ rfl; (with_reducible repeat apply pK); refine blk_put (cs := #[.int .i64 t183, .int .i64 t184, .slice Ao39 t185.length co39, .int .i64 0, .bool false, .bool false]) ?_ 3 _ rfl; (with_reducible repeat apply pK); refine blk_put (cs := #[.int .i64 t183, .int .i64 t184, .slice none 0 0, .int .i64 0, .bool false, .bool false]) ?_ 2 _ rfl; (with_reducible repeat apply pK); refine blk_put (cs := #[.int .i64 t183, .int .i64 0, .slice none 0 0, .int .i64 0, .bool false, .bool false]) ?_ 1 _ rfl; (with_reducible repeat apply pK); refine blk_put (cs := #[.int .i64 0, .int .i64 0, .slice none 0 0, .int .i64 0, .bool false, .bool false]) ?_ 0 _ rfl; (with_reducible repeat apply pK); exact BK192.out) hb); have n8_ := Aside0.mk (below_step bl_ hb); clear HO161; clear HO167; clear HO177; clear HO187; clear BK162; clear BK172; clear BK182; clear BK192; clear HB; have HO161 := n0_; have HO167 := n1_; have HO177 := n2_; have HO187 := n3_; have BK162 := n4_; have BK172 := n5_; have BK182 := n6_; have BK192 := n7_; have HB := n8_; clear n0_ n1_ n2_ n3_ n4_ n5_ n6_ n7_ n8_; (try clear hb); (try clear hb2); (try clear hk); (try clear hi)) | (go_at_call 14; (with_reducible refine (move_Moves.calls 9 true _ A8.out).mono ?_); rintro e w' ⟨rfl, ⟨nd, rfl⟩⟩) | (go_at_call 14; (with_reducible refine (move_Moves.calls 10 t197 _ A10.out).mono ?_); rintro e w' ⟨rfl, ⟨nd, rfl⟩⟩))
       go_ret
       exact ⟨by first | rfl | (simp [errW_none, errW_some] <;> rfl) | (simp [*, errW_none, errW_some] <;> rfl), bl_⟩
      ·replace c9 := Bool.eq_false_iff.mpr c9
       subst c9
       have H1 : (none) = some r := by rw [if_neg (show ¬ (false = true) by decide)] at H; exact H
       clear H
       have H := H1
       clear H1
       exact absurd H (by simp)
     ·rw [if_neg c7] at H
      exact absurd H (by simp)
    ·rw [if_neg c5] at H
     exact absurd H (by simp)
   ·have H1 : (none) = some r := by rw [if_neg (show ¬ (some q194).isNone = true by simp)] at H; exact H
    clear H
    have H := H1
    clear H1
    try simp only [errW_none, errW_some]
    exact absurd H (by simp)
  ·rw [if_neg c4] at H
   exact absurd H (by simp)
 ·have H1 : (none) = some r := by rw [if_neg (show ¬ (some q193).isNone = true by simp)] at H; exact H
  clear H
  have H := H1
  clear H1
  try simp only [errW_none, errW_some]
  exact absurd H (by simp)

/-! ### shutterref10_Sized: function 23 -/
def shutterref10_Sized.f (a0 : Int) (a1 : Int) : Option (Bool) := if a0 ≥ 1 then (if a1 ≥ 1 then (if a0 ≤ 16383 then (if a1 ≤ 16383 then (some (decide ((wrap64 (a0 * a1)) ≤ 16383))) else (some false)) else (some false)) else (some false)) else (some false)
set_option maxHeartbeats 8000000 in
set_option maxRecDepth 100000 in
theorem shutterref10_Sized.calls (a0 : Int) (a1 : Int) (r : Bool) (w : World) (h : shutterref10_Sized.f a0 a1 = some r) :
  Calls Tryd.prog 23 #[.int .i64 a0, .int .i64 a1] w fun e w' => e = .returned (.bool r) ∧ Drawn0 w w' := by
 have H : (if a0 ≥ 1 then (if a1 ≥ 1 then (if a0 ≤ 16383 then (if a1 ≤ 16383 then (some (decide ((wrap64 (a0 * a1)) ≤ 16383))) else (some false)) else (some false)) else (some false)) else (some false)) = some r := h
 clear h
 by_cases c3 : a0 ≥ 1
 ·rw [if_pos c3] at H
  have c3b0 : decide (1 ≤ a0) = true := decide_eq_true c3
  clear c3
  by_cases c4 : a1 ≥ 1
  ·rw [if_pos c4] at H
   have c4b0 : decide (1 ≤ a1) = true := decide_eq_true c4
   clear c4
   by_cases c5 : a0 ≤ 16383
   ·rw [if_pos c5] at H
    have c5b0 : decide (a0 ≤ 16383) = true := decide_eq_true c5
    clear c5
    by_cases c6 : a1 ≤ 16383
    ·rw [if_pos c6] at H
     have c6b0 : decide (a1 ≤ 16383) = true := decide_eq_true c6
     clear c6
     obtain rfl := Option.some.inj H
     go_enter Tryd.func23, Tryd.ntmps23
     go_wp2
     go_ret
     exact ⟨by first | rfl | (simp; done) | (simp [*]; done), by repeat (first | exact Drawn0.refl _ | apply Drawn0.step)⟩
    ·rw [if_neg c6] at H
     have c6b0 : decide (a1 ≤ 16383) = false := decide_eq_false c6
     clear c6
     obtain rfl := Option.some.inj H
     go_enter Tryd.func23, Tryd.ntmps23
     go_wp2
     go_ret
     exact ⟨by first | rfl | (simp; done) | (simp [*]; done), by repeat (first | exact Drawn0.refl _ | apply Drawn0.step)⟩
   ·rw [if_neg c5] at H
    have c5b0 : decide (a0 ≤ 16383) = false := decide_eq_false c5
    clear c5
    obtain rfl := Option.some.inj H
    go_enter Tryd.func23, Tryd.ntmps23
    go_wp2
    go_ret
    exact ⟨by first | rfl | (simp; done) | (simp [*]; done), by repeat (first | exact Drawn0.refl _ | apply Drawn0.step)⟩
  ·rw [if_neg c4] at H
   have c4b0 : decide (1 ≤ a1) = false := decide_eq_false c4
   clear c4
   obtain rfl := Option.some.inj H
   go_enter Tryd.func23, Tryd.ntmps23
   go_wp2
   go_ret
   exact ⟨by first | rfl | (simp; done) | (simp [*]; done), by repeat (first | exact Drawn0.refl _ | apply Drawn0.step)⟩
 ·rw [if_neg c3] at H
  have c3b0 : decide (1 ≤ a0) = false := decide_eq_false c3
  clear c3
  obtain rfl := Option.some.inj H
  go_enter Tryd.func23, Tryd.ntmps23
  go_wp2
  go_ret
  exact ⟨by first | rfl | (simp; done) | (simp [*]; done), by repeat (first | exact Drawn0.refl _ | apply Drawn0.step)⟩

/-! ### shutterref05_Char: function 39 -/
def shutterref05_Char.f (a0 : Int) : Option (Bool) := if a0 = 0 then (some true) else (if a0 = 28 then (some true) else (if a0 = 30 then (some true) else (if a0 ≥ 64 then (some (decide (a0 ≤ 254))) else (some false))))
set_option maxHeartbeats 8000000 in
set_option maxRecDepth 100000 in
theorem shutterref05_Char.calls (a0 : Int) (r : Bool) (w : World) (h : shutterref05_Char.f a0 = some r) :
  Calls Tryd.prog 39 #[.int .u8 a0] w fun e w' => e = .returned (.bool r) ∧ Drawn0 w w' := by
 have H : (if a0 = 0 then (some true) else (if a0 = 28 then (some true) else (if a0 = 30 then (some true) else (if a0 ≥ 64 then (some (decide (a0 ≤ 254))) else (some false))))) = some r := h
 clear h
 by_cases c2 : a0 = 0
 ·rw [if_pos c2] at H
  have c2b0 : (a0 == 0) = true := beq_iff_eq.mpr c2
  have c2b1 : (a0 != 0) = false := bne_eq_false_iff_eq.mpr c2
  clear c2
  obtain rfl := Option.some.inj H
  go_enter Tryd.func39, Tryd.ntmps39
  go_wp2
  go_ret
  exact ⟨by first | rfl | (simp; done) | (simp [*]; done), by repeat (first | exact Drawn0.refl _ | apply Drawn0.step)⟩
 ·rw [if_neg c2] at H
  have c2b0 : (a0 == 0) = false := beq_eq_false_iff_ne.mpr c2
  have c2b1 : (a0 != 0) = true := bne_iff_ne.mpr c2
  by_cases c3 : a0 = 28
  ·rw [if_pos c3] at H
   have c3b0 : (a0 == 28) = true := beq_iff_eq.mpr c3
   have c3b1 : (a0 != 28) = false := bne_eq_false_iff_eq.mpr c3
   clear c3
   obtain rfl := Option.some.inj H
   go_enter Tryd.func39, Tryd.ntmps39
   go_wp2
   go_ret
   exact ⟨by first | rfl | (simp; done) | (simp [*]; done), by repeat (first | exact Drawn0.refl _ | apply Drawn0.step)⟩
  ·rw [if_neg c3] at H
   have c3b0 : (a0 == 28) = false := beq_eq_false_iff_ne.mpr c3
   have c3b1 : (a0 != 28) = true := bne_iff_ne.mpr c3
   by_cases c4 : a0 = 30
   ·rw [if_pos c4] at H
    have c4b0 : (a0 == 30) = true := beq_iff_eq.mpr c4
    have c4b1 : (a0 != 30) = false := bne_eq_false_iff_eq.mpr c4
    clear c4
    obtain rfl := Option.some.inj H
    go_enter Tryd.func39, Tryd.ntmps39
    go_wp2
    go_ret
    exact ⟨by first | rfl | (simp; done) | (simp [*]; done), by repeat (first | exact Drawn0.refl _ | apply Drawn0.step)⟩
   ·rw [if_neg c4] at H
    have c4b0 : (a0 == 30) = false := beq_eq_false_iff_ne.mpr c4
    have c4b1 : (a0 != 30) = true := bne_iff_ne.mpr c4
    by_cases c5 : a0 ≥ 64
    ·rw [if_pos c5] at H
     have c5b0 : decide (64 ≤ a0) = true := decide_eq_true c5
     clear c5
     obtain rfl := Option.some.inj H
     go_enter Tryd.func39, Tryd.ntmps39
     go_wp2
     go_ret
     exact ⟨by first | rfl | (simp; done) | (simp [*]; done), by repeat (first | exact Drawn0.refl _ | apply Drawn0.step)⟩
    ·rw [if_neg c5] at H
     have c5b0 : decide (64 ≤ a0) = false := decide_eq_false c5
     clear c5
     obtain rfl := Option.some.inj H
     go_enter Tryd.func39, Tryd.ntmps39
     go_wp2
     go_ret
     exact ⟨by first | rfl | (simp; done) | (simp [*]; done), by repeat (first | exact Drawn0.refl _ | apply Drawn0.step)⟩

/-! ### shutterref10_Cell: function 24 -/
def shutterref10_Cell.f (a0_0 : Bool) (a0_1 : Bool) (a0_2 : Bool) (a0_3 : Int) (a0_4 : Bool) (a0_5 : Int) : Option (Bool) := if a0_0 = true then (if a0_5 = 0 then (if a0_3 ≥ 0 then (some (decide (a0_3 ≤ 3))) else (some false)) else (some false)) else (if (!a0_1 && (!a0_2 && (a0_3 == 0 && (!a0_4)))) = true then ((shutterref05_Char.f a0_5).bind fun t199 => (some t199)) else (some false))
set_option maxHeartbeats 8000000 in
set_option maxRecDepth 100000 in
theorem shutterref10_Cell.calls (a0_0 : Bool) (a0_1 : Bool) (a0_2 : Bool) (a0_3 : Int) (a0_4 : Bool) (a0_5 : Int) (r : Bool) (w : World) (h : shutterref10_Cell.f a0_0 a0_1 a0_2 a0_3 a0_4 a0_5 = some r) :
  Calls Tryd.prog 24 #[.agg #[.bool a0_0, .bool a0_1, .bool a0_2, .int .i64 a0_3, .bool a0_4, .int .u8 a0_5]] w fun e w' => e = .returned (.bool r) ∧ Below w.heap.size w w' := by
 have hu44 := Tryd.underlying44
 have hu42 := Tryd.underlying42
 have HB := Aside0.mk (Below.refl w.heap.size w)
 have H : (if a0_0 = true then (if a0_5 = 0 then (if a0_3 ≥ 0 then (some (decide (a0_3 ≤ 3))) else (some false)) else (some false)) else (if (!a0_1 && (!a0_2 && (a0_3 == 0 && (!a0_4)))) = true then ((shutterref05_Char.f a0_5).bind fun t199 => (some t199)) else (some false))) = some r := h
 clear h
 by_cases c2 : a0_0 = true
 ·subst c2
  have H1 : (if a0_5 = 0 then (if a0_3 ≥ 0 then (some (decide (a0_3 ≤ 3))) else (some false)) else (some false)) = some r := by rw [if_pos rfl] at H; exact H
  clear H
  have H := H1
  clear H1
  by_cases c3 : a0_5 = 0
  ·rw [if_pos c3] at H
   have c3b0 : (a0_5 == 0) = true := beq_iff_eq.mpr c3
   have c3b1 : (a0_5 != 0) = false := bne_eq_false_iff_eq.mpr c3
   clear c3
   by_cases c4 : a0_3 ≥ 0
   ·rw [if_pos c4] at H
    have c4b0 : decide (0 ≤ a0_3) = true := decide_eq_true c4
    clear c4
    obtain rfl := Option.some.inj H
    go_enter Tryd.func24, Tryd.ntmps24
    go_wp2_with (first | ((with_reducible refine gate_dst (N := 1) rfl ?_); refine box_event ?hg (N := 1) ?hd (cs := #[.bool true, .bool a0_1, .bool a0_2, .int .i64 a0_3, .bool a0_4, .int .u8 a0_5]) (t := 44) ?hr ?_; (case hd => rfl); (case hg => rfl); (case hr => first | (go_simp; done) | (go_simp; rfl)); intro gb198 hg w5 hbox hb; have n0_ := Aside0.mk (below_step bl_ hb); have n1_ := Aside0.mk (hbox); have n2_ := Aside0.mk ((le_new hg (below_size bl_) : w.heap.size ≤ gb198)); have n3_ := Aside0.mk ((le_new hg (below_size bl_) : w.heap.size ≤ gb198)); clear HB; have HB := n0_; have BK198 := n1_; have GW198 := n2_; have GE198 := n3_; clear n0_ n1_ n2_ n3_; clear hb hbox hg; obtain ⟨hcz6_0, hcz6_1, hcz6_2, hcz6_3, hcz6_4, hcz6_5, hfz6_0, hfz6_1, hfz6_2, hfz6_3, hfz6_4, hfz6_5⟩ := cells6 (show w5.heap[gb198]? = some (.cells #[.bool true, .bool a0_1, .bool a0_2, .int .i64 a0_3, .bool a0_4, .int .u8 a0_5] _ (0, 0)) from BK198.out)))
    go_ret
    exact ⟨by first | rfl | (simp [errW_none, errW_some] <;> rfl) | (simp [*, errW_none, errW_some] <;> rfl), bl_⟩
   ·rw [if_neg c4] at H
    have c4b0 : decide (0 ≤ a0_3) = false := decide_eq_false c4
    clear c4
    obtain rfl := Option.some.inj H
    go_enter Tryd.func24, Tryd.ntmps24
    go_wp2_with (first | ((with_reducible refine gate_dst (N := 1) rfl ?_); refine box_event ?hg (N := 1) ?hd (cs := #[.bool true, .bool a0_1, .bool a0_2, .int .i64 a0_3, .bool a0_4, .int .u8 a0_5]) (t := 44) ?hr ?_; (case hd => rfl); (case hg => rfl); (case hr => first | (go_simp; done) | (go_simp; rfl)); intro gb198 hg w7 hbox hb; have n0_ := Aside0.mk (below_step bl_ hb); have n1_ := Aside0.mk (hbox); have n2_ := Aside0.mk ((le_new hg (below_size bl_) : w.heap.size ≤ gb198)); have n3_ := Aside0.mk ((le_new hg (below_size bl_) : w.heap.size ≤ gb198)); clear HB; have HB := n0_; have BK198 := n1_; have GW198 := n2_; have GE198 := n3_; clear n0_ n1_ n2_ n3_; clear hb hbox hg; obtain ⟨hcz8_0, hcz8_1, hcz8_2, hcz8_3, hcz8_4, hcz8_5, hfz8_0, hfz8_1, hfz8_2, hfz8_3, hfz8_4, hfz8_5⟩ := cells6 (show w7.heap[gb198]? = some (.cells #[.bool true, .bool a0_1, .bool a0_2, .int .i64 a0_3, .bool a0_4, .int .u8 a0_5] _ (0, 0)) from BK198.out)))
    go_ret
    exact ⟨by first | rfl | (simp [errW_none, errW_some] <;> rfl) | (simp [*, errW_none, errW_some] <;> rfl), bl_⟩
  ·rw [if_neg c3] at H
   have c3b0 : (a0_5 == 0) = false := beq_eq_false_iff_ne.mpr c3
   have c3b1 : (a0_5 != 0) = true := bne_iff_ne.mpr c3
   obtain rfl := Option.some.inj H
   go_enter Tryd.func24, Tryd.ntmps24
   go_wp2_with (first | ((with_reducible refine gate_dst (N := 1) rfl ?_); refine box_event ?hg (N := 1) ?hd (cs := #[.bool true, .bool a0_1, .bool a0_2, .int .i64 a0_3, .bool a0_4, .int .u8 a0_5]) (t := 44) ?hr ?_; (case hd => rfl); (case hg => rfl); (case hr => first | (go_simp; done) | (go_simp; rfl)); intro gb198 hg w9 hbox hb; have n0_ := Aside0.mk (below_step bl_ hb); have n1_ := Aside0.mk (hbox); have n2_ := Aside0.mk ((le_new hg (below_size bl_) : w.heap.size ≤ gb198)); have n3_ := Aside0.mk ((le_new hg (below_size bl_) : w.heap.size ≤ gb198)); clear HB; have HB := n0_; have BK198 := n1_; have GW198 := n2_; have GE198 := n3_; clear n0_ n1_ n2_ n3_; clear hb hbox hg; obtain ⟨hcz10_0, hcz10_1, hcz10_2, hcz10_3, hcz10_4, hcz10_5, hfz10_0, hfz10_1, hfz10_2, hfz10_3, hfz10_4, hfz10_5⟩ := cells6 (show w9.heap[gb198]? = some (.cells #[.bool true, .bool a0_1, .bool a0_2, .int .i64 a0_3, .bool a0_4, .int .u8 a0_5] _ (0, 0)) from BK198.out)))
   go_ret
   exact ⟨by first | rfl | (simp [errW_none, errW_some] <;> rfl) | (simp [*, errW_none, errW_some] <;> rfl), bl_⟩
 ·replace c2 := Bool.eq_false_iff.mpr c2
  subst c2
  have H1 : (if (!a0_1 && (!a0_2 && (a0_3 == 0 && (!a0_4)))) = true then ((shutterref05_Char.f a0_5).bind fun t199 => (some t199)) else (some false)) = some r := by rw [if_neg (show ¬ (false = true) by decide)] at H; exact H
  clear H
  have H := H1
  clear H1
  by_cases c11 : (!a0_1 && (!a0_2 && (a0_3 == 0 && (!a0_4)))) = true
  ·rw [if_pos c11] at H
   have c11b0 : (!a0_1 && (!a0_2 && (a0_3 == 0 && (!a0_4)))) = true := c11
   clear c11
   replace H := Option.bind_eq_some_iff.mp H
   obtain ⟨t199, A120, H⟩ := H
   replace H : (some t199) = some r := H
   have A12 := Aside0.mk A120
   clear A120
   obtain rfl := Option.some.inj H
   go_enter Tryd.func24, Tryd.ntmps24
   go_wp2_with (first | ((with_reducible refine gate_dst (N := 1) rfl ?_); refine box_event ?hg (N := 1) ?hd (cs := #[.bool false, .bool a0_1, .bool a0_2, .int .i64 a0_3, .bool a0_4, .int .u8 a0_5]) (t := 44) ?hr ?_; (case hd => rfl); (case hg => rfl); (case hr => first | (go_simp; done) | (go_simp; rfl)); intro gb198 hg w13 hbox hb; have n0_ := Aside0.mk (below_step bl_ hb); have n1_ := Aside0.mk (hbox); have n2_ := Aside0.mk ((le_new hg (below_size bl_) : w.heap.size ≤ gb198)); have n3_ := Aside0.mk ((le_new hg (below_size bl_) : w.heap.size ≤ gb198)); clear HB; have HB := n0_; have BK198 := n1_; have GW198 := n2_; have GE198 := n3_; clear n0_ n1_ n2_ n3_; clear hb hbox hg; obtain ⟨hcz14_0, hcz14_1, hcz14_2, hcz14_3, hcz14_4, hcz14_5, hfz14_0, hfz14_1, hfz14_2, hfz14_3, hfz14_4, hfz14_5⟩ := cells6 (show w13.heap[gb198]? = some (.cells #[.bool false, .bool a0_1, .bool a0_2, .int .i64 a0_3, .bool a0_4, .int .u8 a0_5] _ (0, 0)) from BK198.out)) | (go_at_call 39; (with_reducible refine (shutterref05_Char.calls a0_5 t199 _ A12.out).mono ?_); rintro e w' ⟨rfl, ⟨nd, rfl⟩⟩))
   go_ret
   exact ⟨by first | rfl | (simp [errW_none, errW_some] <;> rfl) | (simp [*, errW_none, errW_some] <;> rfl), bl_⟩
  ·rw [if_neg c11] at H
   have c11b0 : (!a0_1 && (!a0_2 && (a0_3 == 0 && (!a0_4)))) = false := by simpa using c11
   clear c11
   obtain rfl := Option.some.inj H
   go_enter Tryd.func24, Tryd.ntmps24
   go_wp2_with (first | ((with_reducible refine gate_dst (N := 1) rfl ?_); refine box_event ?hg (N := 1) ?hd (cs := #[.bool false, .bool a0_1, .bool a0_2, .int .i64 a0_3, .bool a0_4, .int .u8 a0_5]) (t := 44) ?hr ?_; (case hd => rfl); (case hg => rfl); (case hr => first | (go_simp; done) | (go_simp; rfl)); intro gb198 hg w15 hbox hb; have n0_ := Aside0.mk (below_step bl_ hb); have n1_ := Aside0.mk (hbox); have n2_ := Aside0.mk ((le_new hg (below_size bl_) : w.heap.size ≤ gb198)); have n3_ := Aside0.mk ((le_new hg (below_size bl_) : w.heap.size ≤ gb198)); clear HB; have HB := n0_; have BK198 := n1_; have GW198 := n2_; have GE198 := n3_; clear n0_ n1_ n2_ n3_; clear hb hbox hg; obtain ⟨hcz16_0, hcz16_1, hcz16_2, hcz16_3, hcz16_4, hcz16_5, hfz16_0, hfz16_1, hfz16_2, hfz16_3, hfz16_4, hfz16_5⟩ := cells6 (show w15.heap[gb198]? = some (.cells #[.bool false, .bool a0_1, .bool a0_2, .int .i64 a0_3, .bool a0_4, .int .u8 a0_5] _ (0, 0)) from BK198.out)))
   go_ret
   exact ⟨by first | rfl | (simp [errW_none, errW_some] <;> rfl) | (simp [*, errW_none, errW_some] <;> rfl), bl_⟩

end Go.Proofs.YtapcfcagjlmgjaaDoor.P
