/- The functions of the seat's laws as plain Lean functions, and that Go's code comes to just their answers. Written by pp.py (wip/tools), a program of this session, on the kit's print. -/
import Derived.Test.YtggecanpjkpkiaaDoorPx0
import Derived.Test.YtggecanpjkpkiaaDoorPx2
namespace Go.Proofs.YtggecanpjkpkiaaDoor.P
open Go.RowKit Go.Proofs.YtggecanpjkpkiaaDoorW.PrintWords Go.Proofs.YtggecanpjkpkiaaDoorW.PrintLast Go.Proofs.YtggecanpjkpkiaaDoorW.PrintMore
attribute [local go_sem] max2_int min2_int max_two min_two max_three min_three max_four min_four   -- for this text's walks alone
attribute [local go_sem] Instr.field asAgg
set_option linter.unusedVariables false
set_option linter.unusedSimpArgs false

attribute [local go_sem high] eqA35
/-! ### shutterref10_Same: function 24 -/
mutual
def shutterref10_Same.j0 : Nat → Bool → Int → Int → List (S35) → Int → Bool → Bool → Int → Int → List (S35) → Int → Bool → Bool → Option (Bool)
 | 0, _, _, _, _, _, _, _, _, _, _, _, _, _ => none
 | k + 1, x47, x389000, x389001, x389002, x389003, x389004, x389005, x390000, x390001, x390002, x390003, x390004, x390005 => if x47 = true then (some false) else (shutterref10_Same.l0 k 0 x389000 x389001 x389002 x389003 x389004 x389005 x390000 x390001 x390002 x390003 x390004 x390005)
def shutterref10_Same.l0 : Nat → Int → Int → Int → List (S35) → Int → Bool → Bool → Int → Int → List (S35) → Int → Bool → Bool → Option (Bool)
 | 0, _, _, _, _, _, _, _, _, _, _, _, _, _ => none
 | k + 1, x5, x389000, x389001, x389002, x389003, x389004, x389005, x390000, x390001, x390002, x390003, x390004, x390005 => if x5 < (x389002.length : Int) then (if 0 ≤ x5 then (if x5 < (x390002.length : Int) then (if (!(((rd_T35 x389002 x5).f0) == ((rd_T35 x390002 x5).f0)) || ((!(((rd_T35 x389002 x5).f1.f0) == ((rd_T35 x390002 x5).f1.f0)) || (!(((rd_T35 x389002 x5).f1.f1) == ((rd_T35 x390002 x5).f1.f1)) || (!(((rd_T35 x389002 x5).f1.f2) == ((rd_T35 x390002 x5).f1.f2)) || (!(((rd_T35 x389002 x5).f1.f3) == ((rd_T35 x390002 x5).f1.f3)))))) || (!(((rd_T35 x389002 x5).f2) == ((rd_T35 x390002 x5).f2))))) = true then (some false) else (shutterref10_Same.l0 k (wrap64 (x5 + 1)) x389000 x389001 x389002 x389003 x389004 x389005 x390000 x390001 x390002 x390003 x390004 x390005)) else (none)) else (none)) else (some true)
end
def shutterref10_Same.f (k : Nat) (a0_0 : Int) (a0_1 : Int) (l0_2 : List (S35)) (a0_3 : Int) (a0_4 : Bool) (a0_5 : Bool) (a1_0 : Int) (a1_1 : Int) (l1_2 : List (S35)) (a1_3 : Int) (a1_4 : Bool) (a1_5 : Bool) : Option (Bool) := if a0_0 = a1_0 then (if a0_1 = a1_1 then (if a0_3 = a1_3 then (if (a0_4 != a1_4) = true then (shutterref10_Same.j0 k true a0_0 a0_1 l0_2 a0_3 a0_4 a0_5 a1_0 a1_1 l1_2 a1_3 a1_4 a1_5) else (if (a0_5 != a1_5) = true then (shutterref10_Same.j0 k true a0_0 a0_1 l0_2 a0_3 a0_4 a0_5 a1_0 a1_1 l1_2 a1_3 a1_4 a1_5) else (shutterref10_Same.j0 k ((l0_2.length : Int) != (l1_2.length : Int)) a0_0 a0_1 l0_2 a0_3 a0_4 a0_5 a1_0 a1_1 l1_2 a1_3 a1_4 a1_5))) else (shutterref10_Same.j0 k true a0_0 a0_1 l0_2 a0_3 a0_4 a0_5 a1_0 a1_1 l1_2 a1_3 a1_4 a1_5)) else (shutterref10_Same.j0 k true a0_0 a0_1 l0_2 a0_3 a0_4 a0_5 a1_0 a1_1 l1_2 a1_3 a1_4 a1_5)) else (shutterref10_Same.j0 k true a0_0 a0_1 l0_2 a0_3 a0_4 a0_5 a1_0 a1_1 l1_2 a1_3 a1_4 a1_5)
theorem shutterref10_Same.mono_l : ∀ k, (∀ y0 y1 y2 y3 y4 y5 y6 y7 y8 y9 y10 y11 y12, LeO (shutterref10_Same.j0 k y0 y1 y2 y3 y4 y5 y6 y7 y8 y9 y10 y11 y12) (shutterref10_Same.j0 (k + 1) y0 y1 y2 y3 y4 y5 y6 y7 y8 y9 y10 y11 y12)) ∧ (∀ y0 y1 y2 y3 y4 y5 y6 y7 y8 y9 y10 y11 y12, LeO (shutterref10_Same.l0 k y0 y1 y2 y3 y4 y5 y6 y7 y8 y9 y10 y11 y12) (shutterref10_Same.l0 (k + 1) y0 y1 y2 y3 y4 y5 y6 y7 y8 y9 y10 y11 y12))
 | 0 => ⟨fun _ _ _ _ _ _ _ _ _ _ _ _ _ r h => by simp [shutterref10_Same.j0] at h, fun _ _ _ _ _ _ _ _ _ _ _ _ _ r h => by simp [shutterref10_Same.l0] at h⟩
 | k + 1 => by
  obtain ⟨ih0, ih1⟩ := shutterref10_Same.mono_l k
  refine ⟨?_, ?_⟩
  ·intro y0 y1 y2 y3 y4 y5 y6 y7 y8 y9 y10 y11 y12
   unfold shutterref10_Same.j0
   repeat' first
   | (with_reducible exact ih0 _ _ _ _ _ _ _ _ _ _ _ _ _)
   | (with_reducible exact ih1 _ _ _ _ _ _ _ _ _ _ _ _ _)
   | (with_reducible exact LeO.refl _)
   | (with_reducible exact LeO.none _)
   | (with_reducible refine LeO.ite ?_ ?_)
   | (with_reducible refine LeO.bind ?_ (fun _ => ?_))
   | exact ih0 _ _ _ _ _ _ _ _ _ _ _ _ _
   | exact ih1 _ _ _ _ _ _ _ _ _ _ _ _ _
   | exact LeO.none _
   | refine LeO.ite ?_ ?_
   | refine LeO.bind ?_ (fun _ => ?_)
  ·intro y0 y1 y2 y3 y4 y5 y6 y7 y8 y9 y10 y11 y12
   unfold shutterref10_Same.l0
   repeat' first
   | (with_reducible exact ih0 _ _ _ _ _ _ _ _ _ _ _ _ _)
   | (with_reducible exact ih1 _ _ _ _ _ _ _ _ _ _ _ _ _)
   | (with_reducible exact LeO.refl _)
   | (with_reducible exact LeO.none _)
   | (with_reducible refine LeO.ite ?_ ?_)
   | (with_reducible refine LeO.bind ?_ (fun _ => ?_))
   | exact ih0 _ _ _ _ _ _ _ _ _ _ _ _ _
   | exact ih1 _ _ _ _ _ _ _ _ _ _ _ _ _
   | exact LeO.none _
   | refine LeO.ite ?_ ?_
   | refine LeO.bind ?_ (fun _ => ?_)
theorem shutterref10_Same.mono : ∀ a0 a1 a2 a3 a4 a5 a6 a7 a8 a9 a10 a11 k, LeO (shutterref10_Same.f k a0 a1 a2 a3 a4 a5 a6 a7 a8 a9 a10 a11) (shutterref10_Same.f (k + 1) a0 a1 a2 a3 a4 a5 a6 a7 a8 a9 a10 a11) := by
 intro a0 a1 a2 a3 a4 a5 a6 a7 a8 a9 a10 a11 k
 obtain ⟨ih0, ih1⟩ := shutterref10_Same.mono_l k
 unfold shutterref10_Same.f
 repeat' first
   | (with_reducible exact ih0 _ _ _ _ _ _ _ _ _ _ _ _ _)
   | (with_reducible exact ih1 _ _ _ _ _ _ _ _ _ _ _ _ _)
   | (with_reducible exact LeO.refl _)
   | (with_reducible exact LeO.none _)
   | (with_reducible refine LeO.ite ?_ ?_)
   | (with_reducible refine LeO.bind ?_ (fun _ => ?_))
   | exact ih0 _ _ _ _ _ _ _ _ _ _ _ _ _
   | exact ih1 _ _ _ _ _ _ _ _ _ _ _ _ _
   | exact LeO.none _
   | refine LeO.ite ?_ ?_
   | refine LeO.bind ?_ (fun _ => ?_)
set_option maxHeartbeats 8000000 in
set_option maxRecDepth 100000 in
theorem shutterref10_Same.calls (k : Nat) (a0_0 : Int) (a0_1 : Int) (A0_2 : Option Addr) (c0_2 : Nat) (l0_2 : List (S35)) (a0_3 : Int) (a0_4 : Bool) (a0_5 : Bool) (a1_0 : Int) (a1_1 : Int) (A1_2 : Option Addr) (c1_2 : Nat) (l1_2 : List (S35)) (a1_3 : Int) (a1_4 : Bool) (a1_5 : Bool) (r : Bool) (w : World) (hr0_2 : Kd.C k35 w A0_2 l0_2.length l0_2) (hc0_2 : l0_2.length ≤ c0_2) (hr1_2 : Kd.C k35 w A1_2 l1_2.length l1_2) (hc1_2 : l1_2.length ≤ c1_2) (h : shutterref10_Same.f k a0_0 a0_1 l0_2 a0_3 a0_4 a0_5 a1_0 a1_1 l1_2 a1_3 a1_4 a1_5 = some r) :
  Calls Tryd.prog 24 #[.agg #[.int .i64 a0_0, .int .i64 a0_1, .slice A0_2 l0_2.length c0_2, .int .i64 a0_3, .bool a0_4, .bool a0_5], .agg #[.int .i64 a1_0, .int .i64 a1_1, .slice A1_2 l1_2.length c1_2, .int .i64 a1_3, .bool a1_4, .bool a1_5]] w fun e w' => e = .returned (.bool r) ∧ Below w.heap.size w w' := by
 have hu24 := Tryd.underlying24
 have hu35 := Tryd.underlying35
 have HR0_2 := Aside0.mk hr0_2
 have HC0_2 := Aside0.mk hc0_2
 clear hr0_2 hc0_2
 have HR1_2 := Aside0.mk hr1_2
 have HC1_2 := Aside0.mk hc1_2
 clear hr1_2 hc1_2
 have HB := Aside0.mk (Below.refl w.heap.size w)
 have H : (if a0_0 = a1_0 then (if a0_1 = a1_1 then (if a0_3 = a1_3 then (if (a0_4 != a1_4) = true then (shutterref10_Same.j0 k true a0_0 a0_1 l0_2 a0_3 a0_4 a0_5 a1_0 a1_1 l1_2 a1_3 a1_4 a1_5) else (if (a0_5 != a1_5) = true then (shutterref10_Same.j0 k true a0_0 a0_1 l0_2 a0_3 a0_4 a0_5 a1_0 a1_1 l1_2 a1_3 a1_4 a1_5) else (shutterref10_Same.j0 k ((l0_2.length : Int) != (l1_2.length : Int)) a0_0 a0_1 l0_2 a0_3 a0_4 a0_5 a1_0 a1_1 l1_2 a1_3 a1_4 a1_5))) else (shutterref10_Same.j0 k true a0_0 a0_1 l0_2 a0_3 a0_4 a0_5 a1_0 a1_1 l1_2 a1_3 a1_4 a1_5)) else (shutterref10_Same.j0 k true a0_0 a0_1 l0_2 a0_3 a0_4 a0_5 a1_0 a1_1 l1_2 a1_3 a1_4 a1_5)) else (shutterref10_Same.j0 k true a0_0 a0_1 l0_2 a0_3 a0_4 a0_5 a1_0 a1_1 l1_2 a1_3 a1_4 a1_5)) = some r := h
 clear h
 have HC3 := Aside0.mk H
 clear H
 go_enter Tryd.func24, Tryd.ntmps24
 go_upto_region 1 with (first | ((with_reducible refine gate_dst (N := 2) rfl ?_); (try (refine gate_guard (by rfl) ?_; dsimp only)); refine box_event ?hg (N := 2) ?hd (cs := #[.int .i64 a0_0, .int .i64 a0_1, .slice A0_2 l0_2.length c0_2, .int .i64 a0_3, .bool a0_4, .bool a0_5]) (t := 24) ?hr ?_; (case hd => rfl); (case hg => rfl); (case hr => first | (go_simp; done) | (go_simp; rfl)); intro gb388 hg w4 hbox hb; have n0_ := Aside0.mk (below_step bl_ hb); have n1_ := Aside0.mk (hbox); have n2_ := Aside0.mk ((le_new hg (below_size bl_) : w.heap.size ≤ gb388)); have n3_ := Aside0.mk ((le_new hg (below_size bl_) : w.heap.size ≤ gb388)); clear HB; have HB := n0_; have BK388 := n1_; have GW388 := n2_; have GE388 := n3_; clear n0_ n1_ n2_ n3_; clear hb hbox hg) | ((with_reducible refine gate_dst (N := 3) rfl ?_); (try (refine gate_guard (by rfl) ?_; dsimp only)); refine box_event ?hg (N := 3) ?hd (cs := #[.int .i64 a1_0, .int .i64 a1_1, .slice A1_2 l1_2.length c1_2, .int .i64 a1_3, .bool a1_4, .bool a1_5]) (t := 24) ?hr ?_; (case hd => rfl); (case hg => rfl); (case hr => first | (go_simp; done) | (go_simp; rfl)); intro gb389 hg w5 hbox hb; have n0_ := Aside0.mk (blk_below (g := gb388) (o := .cells #[.int .i64 a0_0, .int .i64 a0_1, .slice A0_2 l0_2.length c0_2, .int .i64 a0_3, .bool a0_4, .bool a0_5] 24 (0, 0)) (by (with_reducible repeat apply pK); exact BK388.out) hb); have n1_ := Aside0.mk (below_step bl_ hb); have n2_ := Aside0.mk (hbox); have n3_ := Aside0.mk ((le_new hg (below_size bl_) : w.heap.size ≤ gb389)); have n4_ := Aside0.mk ((le_new hg (below_size bl_) : w.heap.size ≤ gb389)); have n5_ := Aside0.mk ((by rw [hg]; exact Nat.ne_of_lt (blk_lt (g := gb388) (o := .cells #[.int .i64 a0_0, .int .i64 a0_1, .slice A0_2 l0_2.length c0_2, .int .i64 a0_3, .bool a0_4, .bool a0_5] 24 (0, 0)) (by (with_reducible repeat apply pK); exact BK388.out)) : gb388 ≠ gb389)); have n6_ := Aside0.mk ((by rw [hg]; exact Nat.ne_of_gt (blk_lt (g := gb388) (o := .cells #[.int .i64 a0_0, .int .i64 a0_1, .slice A0_2 l0_2.length c0_2, .int .i64 a0_3, .bool a0_4, .bool a0_5] 24 (0, 0)) (by (with_reducible repeat apply pK); exact BK388.out)) : gb389 ≠ gb388)); clear BK388; clear HB; have BK388 := n0_; have HB := n1_; have BK389 := n2_; have GW389 := n3_; have GE389 := n4_; have NB388_389 := n5_; have NB389_388 := n6_; clear n0_ n1_ n2_ n3_ n4_ n5_ n6_; clear hb hbox hg))
 repeat (go_quiet (first | ((with_reducible refine gate_dst (N := 2) rfl ?_); (try (refine gate_guard (by rfl) ?_; dsimp only)); refine box_event ?hg (N := 2) ?hd (cs := #[.int .i64 a0_0, .int .i64 a0_1, .slice A0_2 l0_2.length c0_2, .int .i64 a0_3, .bool a0_4, .bool a0_5]) (t := 24) ?hr ?_; (case hd => rfl); (case hg => rfl); (case hr => first | (go_simp; done) | (go_simp; rfl)); intro gb388 hg w4 hbox hb; have n0_ := Aside0.mk (below_step bl_ hb); have n1_ := Aside0.mk (hbox); have n2_ := Aside0.mk ((le_new hg (below_size bl_) : w.heap.size ≤ gb388)); have n3_ := Aside0.mk ((le_new hg (below_size bl_) : w.heap.size ≤ gb388)); clear HB; have HB := n0_; have BK388 := n1_; have GW388 := n2_; have GE388 := n3_; clear n0_ n1_ n2_ n3_; clear hb hbox hg) | ((with_reducible refine gate_dst (N := 3) rfl ?_); (try (refine gate_guard (by rfl) ?_; dsimp only)); refine box_event ?hg (N := 3) ?hd (cs := #[.int .i64 a1_0, .int .i64 a1_1, .slice A1_2 l1_2.length c1_2, .int .i64 a1_3, .bool a1_4, .bool a1_5]) (t := 24) ?hr ?_; (case hd => rfl); (case hg => rfl); (case hr => first | (go_simp; done) | (go_simp; rfl)); intro gb389 hg w5 hbox hb; have n0_ := Aside0.mk (blk_below (g := gb388) (o := .cells #[.int .i64 a0_0, .int .i64 a0_1, .slice A0_2 l0_2.length c0_2, .int .i64 a0_3, .bool a0_4, .bool a0_5] 24 (0, 0)) (by (with_reducible repeat apply pK); exact BK388.out) hb); have n1_ := Aside0.mk (below_step bl_ hb); have n2_ := Aside0.mk (hbox); have n3_ := Aside0.mk ((le_new hg (below_size bl_) : w.heap.size ≤ gb389)); have n4_ := Aside0.mk ((le_new hg (below_size bl_) : w.heap.size ≤ gb389)); have n5_ := Aside0.mk ((by rw [hg]; exact Nat.ne_of_lt (blk_lt (g := gb388) (o := .cells #[.int .i64 a0_0, .int .i64 a0_1, .slice A0_2 l0_2.length c0_2, .int .i64 a0_3, .bool a0_4, .bool a0_5] 24 (0, 0)) (by (with_reducible repeat apply pK); exact BK388.out)) : gb388 ≠ gb389)); have n6_ := Aside0.mk ((by rw [hg]; exact Nat.ne_of_gt (blk_lt (g := gb388) (o := .cells #[.int .i64 a0_0, .int .i64 a0_1, .slice A0_2 l0_2.length c0_2, .int .i64 a0_3, .bool a0_4, .bool a0_5] 24 (0, 0)) (by (with_reducible repeat apply pK); exact BK388.out)) : gb389 ≠ gb388)); clear BK388; clear HB; have BK388 := n0_; have HB := n1_; have BK389 := n2_; have GW389 := n3_; have GE389 := n4_; have NB388_389 := n5_; have NB389_388 := n6_; clear n0_ n1_ n2_ n3_ n4_ n5_ n6_; clear hb hbox hg)); go_upto_region 1 with (first | ((with_reducible refine gate_dst (N := 2) rfl ?_); (try (refine gate_guard (by rfl) ?_; dsimp only)); refine box_event ?hg (N := 2) ?hd (cs := #[.int .i64 a0_0, .int .i64 a0_1, .slice A0_2 l0_2.length c0_2, .int .i64 a0_3, .bool a0_4, .bool a0_5]) (t := 24) ?hr ?_; (case hd => rfl); (case hg => rfl); (case hr => first | (go_simp; done) | (go_simp; rfl)); intro gb388 hg w4 hbox hb; have n0_ := Aside0.mk (below_step bl_ hb); have n1_ := Aside0.mk (hbox); have n2_ := Aside0.mk ((le_new hg (below_size bl_) : w.heap.size ≤ gb388)); have n3_ := Aside0.mk ((le_new hg (below_size bl_) : w.heap.size ≤ gb388)); clear HB; have HB := n0_; have BK388 := n1_; have GW388 := n2_; have GE388 := n3_; clear n0_ n1_ n2_ n3_; clear hb hbox hg) | ((with_reducible refine gate_dst (N := 3) rfl ?_); (try (refine gate_guard (by rfl) ?_; dsimp only)); refine box_event ?hg (N := 3) ?hd (cs := #[.int .i64 a1_0, .int .i64 a1_1, .slice A1_2 l1_2.length c1_2, .int .i64 a1_3, .bool a1_4, .bool a1_5]) (t := 24) ?hr ?_; (case hd => rfl); (case hg => rfl); (case hr => first | (go_simp; done) | (go_simp; rfl)); intro gb389 hg w5 hbox hb; have n0_ := Aside0.mk (blk_below (g := gb388) (o := .cells #[.int .i64 a0_0, .int .i64 a0_1, .slice A0_2 l0_2.length c0_2, .int .i64 a0_3, .bool a0_4, .bool a0_5] 24 (0, 0)) (by (with_reducible repeat apply pK); exact BK388.out) hb); have n1_ := Aside0.mk (below_step bl_ hb); have n2_ := Aside0.mk (hbox); have n3_ := Aside0.mk ((le_new hg (below_size bl_) : w.heap.size ≤ gb389)); have n4_ := Aside0.mk ((le_new hg (below_size bl_) : w.heap.size ≤ gb389)); have n5_ := Aside0.mk ((by rw [hg]; exact Nat.ne_of_lt (blk_lt (g := gb388) (o := .cells #[.int .i64 a0_0, .int .i64 a0_1, .slice A0_2 l0_2.length c0_2, .int .i64 a0_3, .bool a0_4, .bool a0_5] 24 (0, 0)) (by (with_reducible repeat apply pK); exact BK388.out)) : gb388 ≠ gb389)); have n6_ := Aside0.mk ((by rw [hg]; exact Nat.ne_of_gt (blk_lt (g := gb388) (o := .cells #[.int .i64 a0_0, .int .i64 a0_1, .slice A0_2 l0_2.length c0_2, .int .i64 a0_3, .bool a0_4, .bool a0_5] 24 (0, 0)) (by (with_reducible repeat apply pK); exact BK388.out)) : gb389 ≠ gb388)); clear BK388; clear HB; have BK388 := n0_; have HB := n1_; have BK389 := n2_; have GW389 := n3_; have GE389 := n4_; have NB388_389 := n5_; have NB389_388 := n6_; clear n0_ n1_ n2_ n3_ n4_ n5_ n6_; clear hb hbox hg)))
 (try simp only [Act.put, List.setIfInBounds_toArray, List.set_cons_zero, List.set_cons_succ])
 go_cut [47] (fun v47 wc => ∃ (kq : Nat) (x47_2 : Bool), v47 = .bool x47_2 ∧ Aside0 (shutterref10_Same.j0 kq x47_2 a0_0 a0_1 l0_2 a0_3 a0_4 a0_5 a1_0 a1_1 l1_2 a1_3 a1_4 a1_5 = some r) ∧ Aside0 (kq ≤ k) ∧ Aside0 (wc.heap[gb388]? = some (.cells #[.int .i64 a0_0, .int .i64 a0_1, (.slice A0_2 l0_2.length c0_2), .int .i64 a0_3, .bool a0_4, .bool a0_5] 24 (0, 0))) ∧ Aside0 (wc.heap[gb389]? = some (.cells #[.int .i64 a1_0, .int .i64 a1_1, (.slice A1_2 l1_2.length c1_2), .int .i64 a1_3, .bool a1_4, .bool a1_5] 24 (0, 0))) ∧ Aside0 (Below w.heap.size w wc))
 case first =>
  have H := HC3.out
  clear HC3
  by_cases c6 : a0_0 = a1_0
  ·rw [if_pos c6] at H
   have c6b0 : (a0_0 == a1_0) = true := beq_iff_eq.mpr c6
   have c6b1 : (a0_0 != a1_0) = false := bne_eq_false_iff_eq.mpr c6
   clear c6
   (first | rw [c6b0] | (simp only [i64_w, i32_w]; rw [c6b0]) | skip)
   by_cases c7 : a0_1 = a1_1
   ·rw [if_pos c7] at H
    have c7b0 : (a0_1 == a1_1) = true := beq_iff_eq.mpr c7
    have c7b1 : (a0_1 != a1_1) = false := bne_eq_false_iff_eq.mpr c7
    clear c7
    by_cases c8 : a0_3 = a1_3
    ·rw [if_pos c8] at H
     have c8b0 : (a0_3 == a1_3) = true := beq_iff_eq.mpr c8
     have c8b1 : (a0_3 != a1_3) = false := bne_eq_false_iff_eq.mpr c8
     clear c8
     by_cases c9 : (a0_4 != a1_4) = true
     ·rw [if_pos c9] at H
      have c9b0 : (a0_4 != a1_4) = true := c9
      (try (have c9b1 : decide (a0_4 = a1_4) = false := by simpa using c9))
      (try (have c9b2 : (a0_4 == a1_4) = false := by simpa using c9))
      (try (have c9b3 : ¬ (a0_4 = a1_4) := by simpa using c9))
      clear c9
      have H' := Aside0.mk H
      clear H
      have hnb10 := NB388_389.out
      have hnc10 := NB389_388.out
      obtain ⟨hcz11_0, hcz11_1, hcz11_2, hcz11_3, hcz11_4, hcz11_5, hfz11_0, hfz11_1, hfz11_2, hfz11_3, hfz11_4, hfz11_5⟩ := cells6 (show w5.heap[gb388]? = some (.cells #[.int .i64 a0_0, .int .i64 a0_1, .slice A0_2 l0_2.length c0_2, .int .i64 a0_3, .bool a0_4, .bool a0_5] _ (0, 0)) from BK388.out)
      obtain ⟨hcz12_0, hcz12_1, hcz12_2, hcz12_3, hcz12_4, hcz12_5, hfz12_0, hfz12_1, hfz12_2, hfz12_3, hfz12_4, hfz12_5⟩ := cells6 (show w5.heap[gb389]? = some (.cells #[.int .i64 a1_0, .int .i64 a1_1, .slice A1_2 l1_2.length c1_2, .int .i64 a1_3, .bool a1_4, .bool a1_5] _ (0, 0)) from BK389.out)
      go_wp2
      repeat (go_quiet (fail); try go_wp2)
      go_meet
      case rel => exact ⟨_, (true), (by first | rfl | (simp; done) | (simp [*]; done)), H', ⟨by first | omega | exact Nat.le_refl _⟩, ⟨by (with_reducible repeat apply pK); exact BK388.out⟩, ⟨by (with_reducible repeat apply pK); exact BK389.out⟩, ⟨bl_⟩⟩
     ·rw [if_neg c9] at H
      have c9b0 : (a0_4 != a1_4) = false := by simpa using c9
      (try (have c9b1 : decide (a0_4 = a1_4) = true := by simpa using c9))
      (try (have c9b2 : (a0_4 == a1_4) = true := by simpa using c9))
      clear c9
      by_cases c13 : (a0_5 != a1_5) = true
      ·rw [if_pos c13] at H
       have c13b0 : (a0_5 != a1_5) = true := c13
       (try (have c13b1 : decide (a0_5 = a1_5) = false := by simpa using c13))
       (try (have c13b2 : (a0_5 == a1_5) = false := by simpa using c13))
       (try (have c13b3 : ¬ (a0_5 = a1_5) := by simpa using c13))
       clear c13
       have H' := Aside0.mk H
       clear H
       have hnb14 := NB388_389.out
       have hnc14 := NB389_388.out
       obtain ⟨hcz15_0, hcz15_1, hcz15_2, hcz15_3, hcz15_4, hcz15_5, hfz15_0, hfz15_1, hfz15_2, hfz15_3, hfz15_4, hfz15_5⟩ := cells6 (show w5.heap[gb388]? = some (.cells #[.int .i64 a0_0, .int .i64 a0_1, .slice A0_2 l0_2.length c0_2, .int .i64 a0_3, .bool a0_4, .bool a0_5] _ (0, 0)) from BK388.out)
       obtain ⟨hcz16_0, hcz16_1, hcz16_2, hcz16_3, hcz16_4, hcz16_5, hfz16_0, hfz16_1, hfz16_2, hfz16_3, hfz16_4, hfz16_5⟩ := cells6 (show w5.heap[gb389]? = some (.cells #[.int .i64 a1_0, .int .i64 a1_1, .slice A1_2 l1_2.length c1_2, .int .i64 a1_3, .bool a1_4, .bool a1_5] _ (0, 0)) from BK389.out)
       go_wp2
       repeat (go_quiet (fail); try go_wp2)
       go_meet
       case rel => exact ⟨_, (true), (by first | rfl | (simp; done) | (simp [*]; done)), H', ⟨by first | omega | exact Nat.le_refl _⟩, ⟨by (with_reducible repeat apply pK); exact BK388.out⟩, ⟨by (with_reducible repeat apply pK); exact BK389.out⟩, ⟨bl_⟩⟩
      ·rw [if_neg c13] at H
       have c13b0 : (a0_5 != a1_5) = false := by simpa using c13
       (try (have c13b1 : decide (a0_5 = a1_5) = true := by simpa using c13))
       (try (have c13b2 : (a0_5 == a1_5) = true := by simpa using c13))
       clear c13
       have H' := Aside0.mk H
       clear H
       have hnb17 := NB388_389.out
       have hnc17 := NB389_388.out
       obtain ⟨hcz18_0, hcz18_1, hcz18_2, hcz18_3, hcz18_4, hcz18_5, hfz18_0, hfz18_1, hfz18_2, hfz18_3, hfz18_4, hfz18_5⟩ := cells6 (show w5.heap[gb388]? = some (.cells #[.int .i64 a0_0, .int .i64 a0_1, .slice A0_2 l0_2.length c0_2, .int .i64 a0_3, .bool a0_4, .bool a0_5] _ (0, 0)) from BK388.out)
       obtain ⟨hcz19_0, hcz19_1, hcz19_2, hcz19_3, hcz19_4, hcz19_5, hfz19_0, hfz19_1, hfz19_2, hfz19_3, hfz19_4, hfz19_5⟩ := cells6 (show w5.heap[gb389]? = some (.cells #[.int .i64 a1_0, .int .i64 a1_1, .slice A1_2 l1_2.length c1_2, .int .i64 a1_3, .bool a1_4, .bool a1_5] _ (0, 0)) from BK389.out)
       go_wp2
       repeat (go_quiet (fail); try go_wp2)
       go_meet
       case rel => exact ⟨_, (((l0_2.length : Int) != (l1_2.length : Int))), (by first | rfl | (simp; done) | (simp [*]; done)), H', ⟨by first | omega | exact Nat.le_refl _⟩, ⟨by (with_reducible repeat apply pK); exact BK388.out⟩, ⟨by (with_reducible repeat apply pK); exact BK389.out⟩, ⟨bl_⟩⟩
    ·rw [if_neg c8] at H
     have c8b0 : (a0_3 == a1_3) = false := beq_eq_false_iff_ne.mpr c8
     have c8b1 : (a0_3 != a1_3) = true := bne_iff_ne.mpr c8
     have H' := Aside0.mk H
     clear H
     have hnb20 := NB388_389.out
     have hnc20 := NB389_388.out
     obtain ⟨hcz21_0, hcz21_1, hcz21_2, hcz21_3, hcz21_4, hcz21_5, hfz21_0, hfz21_1, hfz21_2, hfz21_3, hfz21_4, hfz21_5⟩ := cells6 (show w5.heap[gb388]? = some (.cells #[.int .i64 a0_0, .int .i64 a0_1, .slice A0_2 l0_2.length c0_2, .int .i64 a0_3, .bool a0_4, .bool a0_5] _ (0, 0)) from BK388.out)
     obtain ⟨hcz22_0, hcz22_1, hcz22_2, hcz22_3, hcz22_4, hcz22_5, hfz22_0, hfz22_1, hfz22_2, hfz22_3, hfz22_4, hfz22_5⟩ := cells6 (show w5.heap[gb389]? = some (.cells #[.int .i64 a1_0, .int .i64 a1_1, .slice A1_2 l1_2.length c1_2, .int .i64 a1_3, .bool a1_4, .bool a1_5] _ (0, 0)) from BK389.out)
     go_wp2
     repeat (go_quiet (fail); try go_wp2)
     go_meet
     case rel => exact ⟨_, (true), (by first | rfl | (simp; done) | (simp [*]; done)), H', ⟨by first | omega | exact Nat.le_refl _⟩, ⟨by (with_reducible repeat apply pK); exact BK388.out⟩, ⟨by (with_reducible repeat apply pK); exact BK389.out⟩, ⟨bl_⟩⟩
   ·rw [if_neg c7] at H
    have c7b0 : (a0_1 == a1_1) = false := beq_eq_false_iff_ne.mpr c7
    have c7b1 : (a0_1 != a1_1) = true := bne_iff_ne.mpr c7
    have H' := Aside0.mk H
    clear H
    have hnb23 := NB388_389.out
    have hnc23 := NB389_388.out
    obtain ⟨hcz24_0, hcz24_1, hcz24_2, hcz24_3, hcz24_4, hcz24_5, hfz24_0, hfz24_1, hfz24_2, hfz24_3, hfz24_4, hfz24_5⟩ := cells6 (show w5.heap[gb388]? = some (.cells #[.int .i64 a0_0, .int .i64 a0_1, .slice A0_2 l0_2.length c0_2, .int .i64 a0_3, .bool a0_4, .bool a0_5] _ (0, 0)) from BK388.out)
    obtain ⟨hcz25_0, hcz25_1, hcz25_2, hcz25_3, hcz25_4, hcz25_5, hfz25_0, hfz25_1, hfz25_2, hfz25_3, hfz25_4, hfz25_5⟩ := cells6 (show w5.heap[gb389]? = some (.cells #[.int .i64 a1_0, .int .i64 a1_1, .slice A1_2 l1_2.length c1_2, .int .i64 a1_3, .bool a1_4, .bool a1_5] _ (0, 0)) from BK389.out)
    go_wp2
    repeat (go_quiet (fail); try go_wp2)
    go_meet
    case rel => exact ⟨_, (true), (by first | rfl | (simp; done) | (simp [*]; done)), H', ⟨by first | omega | exact Nat.le_refl _⟩, ⟨by (with_reducible repeat apply pK); exact BK388.out⟩, ⟨by (with_reducible repeat apply pK); exact BK389.out⟩, ⟨bl_⟩⟩
  ·rw [if_neg c6] at H
   have c6b0 : (a0_0 == a1_0) = false := beq_eq_false_iff_ne.mpr c6
   have c6b1 : (a0_0 != a1_0) = true := bne_iff_ne.mpr c6
   (first | rw [c6b0] | (simp only [i64_w, i32_w]; rw [c6b0]) | skip)
   have H' := Aside0.mk H
   clear H
   have hnb26 := NB388_389.out
   have hnc26 := NB389_388.out
   obtain ⟨hcz27_0, hcz27_1, hcz27_2, hcz27_3, hcz27_4, hcz27_5, hfz27_0, hfz27_1, hfz27_2, hfz27_3, hfz27_4, hfz27_5⟩ := cells6 (show w5.heap[gb388]? = some (.cells #[.int .i64 a0_0, .int .i64 a0_1, .slice A0_2 l0_2.length c0_2, .int .i64 a0_3, .bool a0_4, .bool a0_5] _ (0, 0)) from BK388.out)
   obtain ⟨hcz28_0, hcz28_1, hcz28_2, hcz28_3, hcz28_4, hcz28_5, hfz28_0, hfz28_1, hfz28_2, hfz28_3, hfz28_4, hfz28_5⟩ := cells6 (show w5.heap[gb389]? = some (.cells #[.int .i64 a1_0, .int .i64 a1_1, .slice A1_2 l1_2.length c1_2, .int .i64 a1_3, .bool a1_4, .bool a1_5] _ (0, 0)) from BK389.out)
   go_wp2
   repeat (go_quiet (fail); try go_wp2)
   go_meet
   case rel => exact ⟨_, (true), (by first | rfl | (simp; done) | (simp [*]; done)), H', ⟨by first | omega | exact Nat.le_refl _⟩, ⟨by (with_reducible repeat apply pK); exact BK388.out⟩, ⟨by (with_reducible repeat apply pK); exact BK389.out⟩, ⟨bl_⟩⟩
 case rest =>
  clear HC3
  try clear c1
  try clear c2
  try clear p2
  try clear c6
  try clear c6b0
  try clear c6b1
  try clear c7
  try clear c7b0
  try clear c7b1
  try clear c8
  try clear c8b0
  try clear c8b1
  try clear c9
  try clear c9b0
  try clear c9b1
  try clear c9b2
  try clear c10
  try clear c13
  try clear c13b0
  try clear c13b1
  try clear c13b2
  try clear c14
  try clear c17
  try clear c20
  try clear c23
  try clear c24
  try clear c26
  try clear hcz11_0
  try clear hcz11_1
  try clear hcz11_2
  try clear hcz11_3
  try clear hcz11_4
  try clear hcz11_5
  try clear hcz12_0
  try clear hcz12_1
  try clear hcz12_2
  try clear hcz12_3
  try clear hcz12_4
  try clear hcz12_5
  try clear hcz15_0
  try clear hcz15_1
  try clear hcz15_2
  try clear hcz15_3
  try clear hcz15_4
  try clear hcz15_5
  try clear hcz16_0
  try clear hcz16_1
  try clear hcz16_2
  try clear hcz16_3
  try clear hcz16_4
  try clear hcz16_5
  try clear hcz18_0
  try clear hcz18_1
  try clear hcz18_2
  try clear hcz18_3
  try clear hcz18_4
  try clear hcz18_5
  try clear hcz19_0
  try clear hcz19_1
  try clear hcz19_2
  try clear hcz19_3
  try clear hcz19_4
  try clear hcz19_5
  try clear hcz21_0
  try clear hcz21_1
  try clear hcz21_2
  try clear hcz21_3
  try clear hcz21_4
  try clear hcz21_5
  try clear hcz22_0
  try clear hcz22_1
  try clear hcz22_2
  try clear hcz22_3
  try clear hcz22_4
  try clear hcz22_5
  try clear hcz24_0
  try clear hcz24_1
  try clear hcz24_2
  try clear hcz24_3
  try clear hcz24_4
  try clear hcz24_5
  try clear hcz25_0
  try clear hcz25_1
  try clear hcz25_2
  try clear hcz25_3
  try clear hcz25_4
  try clear hcz25_5
  try clear hcz27_0
  try clear hcz27_1
  try clear hcz27_2
  try clear hcz27_3
  try clear hcz27_4
  try clear hcz27_5
  try clear hcz28_0
  try clear hcz28_1
  try clear hcz28_2
  try clear hcz28_3
  try clear hcz28_4
  try clear hcz28_5
  try clear hfz11_0
  try clear hfz11_1
  try clear hfz11_2
  try clear hfz11_3
  try clear hfz11_4
  try clear hfz11_5
  try clear hfz12_0
  try clear hfz12_1
  try clear hfz12_2
  try clear hfz12_3
  try clear hfz12_4
  try clear hfz12_5
  try clear hfz15_0
  try clear hfz15_1
  try clear hfz15_2
  try clear hfz15_3
  try clear hfz15_4
  try clear hfz15_5
  try clear hfz16_0
  try clear hfz16_1
  try clear hfz16_2
  try clear hfz16_3
  try clear hfz16_4
  try clear hfz16_5
  try clear hfz18_0
  try clear hfz18_1
  try clear hfz18_2
  try clear hfz18_3
  try clear hfz18_4
  try clear hfz18_5
  try clear hfz19_0
  try clear hfz19_1
  try clear hfz19_2
  try clear hfz19_3
  try clear hfz19_4
  try clear hfz19_5
  try clear hfz21_0
  try clear hfz21_1
  try clear hfz21_2
  try clear hfz21_3
  try clear hfz21_4
  try clear hfz21_5
  try clear hfz22_0
  try clear hfz22_1
  try clear hfz22_2
  try clear hfz22_3
  try clear hfz22_4
  try clear hfz22_5
  try clear hfz24_0
  try clear hfz24_1
  try clear hfz24_2
  try clear hfz24_3
  try clear hfz24_4
  try clear hfz24_5
  try clear hfz25_0
  try clear hfz25_1
  try clear hfz25_2
  try clear hfz25_3
  try clear hfz25_4
  try clear hfz25_5
  try clear hfz27_0
  try clear hfz27_1
  try clear hfz27_2
  try clear hfz27_3
  try clear hfz27_4
  try clear hfz27_5
  try clear hfz28_0
  try clear hfz28_1
  try clear hfz28_2
  try clear hfz28_3
  try clear hfz28_4
  try clear hfz28_5
  obtain ⟨kq, x47_2, rfl, HA, HJ2, BK388, BK389, HB⟩ := hcut
  cases kq with
  | zero => exact absurd HA.out (by simp [shutterref10_Same.j0])
  | succ kj2 =>
   have H := HA.out
   clear HA
   simp only [shutterref10_Same.j0] at H
   by_cases c29 : x47_2 = true
   ·subst c29
    have H1 : (some false) = some r := by rw [if_pos rfl] at H; exact H
    clear H
    have H := H1
    clear H1
    obtain rfl := Option.some.inj H
    go_wp2
    repeat (go_quiet (fail); try go_wp2)
    go_ret
    exact ⟨by first | rfl | (simp [errW_none, errW_some] <;> rfl) | (simp [*, errW_none, errW_some] <;> rfl), bl_⟩
   ·replace c29 := Bool.eq_false_iff.mpr c29
    subst c29
    have H1 : (shutterref10_Same.l0 kj2 0 a0_0 a0_1 l0_2 a0_3 a0_4 a0_5 a1_0 a1_1 l1_2 a1_3 a1_4 a1_5) = some r := by rw [if_neg (show ¬ (false = true) by decide)] at H; exact H
    clear H
    have H := H1
    clear H1
    have H' := Aside0.mk H
    clear H
    go_wp2
    repeat (go_quiet (fail); try go_wp2)
    go_loopg [5] kj2 (fun kq v5 w' => ∃ (x5_2 : Int), v5 = .int .i64 x5_2 ∧ Aside0 (shutterref10_Same.l0 kq x5_2 a0_0 a0_1 l0_2 a0_3 a0_4 a0_5 a1_0 a1_1 l1_2 a1_3 a1_4 a1_5 = some r) ∧ Aside0 (kq ≤ kj2) ∧ Aside0 (w'.heap[gb388]? = some (.cells #[.int .i64 a0_0, .int .i64 a0_1, (.slice A0_2 l0_2.length c0_2), .int .i64 a0_3, .bool a0_4, .bool a0_5] 24 (0, 0))) ∧ Aside0 (w'.heap[gb389]? = some (.cells #[.int .i64 a1_0, .int .i64 a1_1, (.slice A1_2 l1_2.length c1_2), .int .i64 a1_3, .bool a1_4, .bool a1_5] 24 (0, 0))) ∧ Aside0 (Below w.heap.size w w'))
    case atStart => exact ⟨(0), (by first | rfl | (simp; done) | (simp [*]; done)), H', ⟨Nat.le_refl _⟩, ⟨by (with_reducible repeat apply pK); exact BK388.out⟩, ⟨by (with_reducible repeat apply pK); exact BK389.out⟩, ⟨bl_⟩⟩
    case round =>
     clear H'
     try clear c1
     try clear c2
     try clear p2
     try clear c6
     try clear c6b0
     try clear c6b1
     try clear c7
     try clear c7b0
     try clear c7b1
     try clear c8
     try clear c8b0
     try clear c8b1
     try clear c9
     try clear c9b0
     try clear c9b1
     try clear c9b2
     try clear c10
     try clear c13
     try clear c13b0
     try clear c13b1
     try clear c13b2
     try clear c14
     try clear c17
     try clear c20
     try clear c23
     try clear c24
     try clear c26
     try clear c29
     try clear hcz11_0
     try clear hcz11_1
     try clear hcz11_2
     try clear hcz11_3
     try clear hcz11_4
     try clear hcz11_5
     try clear hcz12_0
     try clear hcz12_1
     try clear hcz12_2
     try clear hcz12_3
     try clear hcz12_4
     try clear hcz12_5
     try clear hcz15_0
     try clear hcz15_1
     try clear hcz15_2
     try clear hcz15_3
     try clear hcz15_4
     try clear hcz15_5
     try clear hcz16_0
     try clear hcz16_1
     try clear hcz16_2
     try clear hcz16_3
     try clear hcz16_4
     try clear hcz16_5
     try clear hcz18_0
     try clear hcz18_1
     try clear hcz18_2
     try clear hcz18_3
     try clear hcz18_4
     try clear hcz18_5
     try clear hcz19_0
     try clear hcz19_1
     try clear hcz19_2
     try clear hcz19_3
     try clear hcz19_4
     try clear hcz19_5
     try clear hcz21_0
     try clear hcz21_1
     try clear hcz21_2
     try clear hcz21_3
     try clear hcz21_4
     try clear hcz21_5
     try clear hcz22_0
     try clear hcz22_1
     try clear hcz22_2
     try clear hcz22_3
     try clear hcz22_4
     try clear hcz22_5
     try clear hcz24_0
     try clear hcz24_1
     try clear hcz24_2
     try clear hcz24_3
     try clear hcz24_4
     try clear hcz24_5
     try clear hcz25_0
     try clear hcz25_1
     try clear hcz25_2
     try clear hcz25_3
     try clear hcz25_4
     try clear hcz25_5
     try clear hcz27_0
     try clear hcz27_1
     try clear hcz27_2
     try clear hcz27_3
     try clear hcz27_4
     try clear hcz27_5
     try clear hcz28_0
     try clear hcz28_1
     try clear hcz28_2
     try clear hcz28_3
     try clear hcz28_4
     try clear hcz28_5
     try clear hfz11_0
     try clear hfz11_1
     try clear hfz11_2
     try clear hfz11_3
     try clear hfz11_4
     try clear hfz11_5
     try clear hfz12_0
     try clear hfz12_1
     try clear hfz12_2
     try clear hfz12_3
     try clear hfz12_4
     try clear hfz12_5
     try clear hfz15_0
     try clear hfz15_1
     try clear hfz15_2
     try clear hfz15_3
     try clear hfz15_4
     try clear hfz15_5
     try clear hfz16_0
     try clear hfz16_1
     try clear hfz16_2
     try clear hfz16_3
     try clear hfz16_4
     try clear hfz16_5
     try clear hfz18_0
     try clear hfz18_1
     try clear hfz18_2
     try clear hfz18_3
     try clear hfz18_4
     try clear hfz18_5
     try clear hfz19_0
     try clear hfz19_1
     try clear hfz19_2
     try clear hfz19_3
     try clear hfz19_4
     try clear hfz19_5
     try clear hfz21_0
     try clear hfz21_1
     try clear hfz21_2
     try clear hfz21_3
     try clear hfz21_4
     try clear hfz21_5
     try clear hfz22_0
     try clear hfz22_1
     try clear hfz22_2
     try clear hfz22_3
     try clear hfz22_4
     try clear hfz22_5
     try clear hfz24_0
     try clear hfz24_1
     try clear hfz24_2
     try clear hfz24_3
     try clear hfz24_4
     try clear hfz24_5
     try clear hfz25_0
     try clear hfz25_1
     try clear hfz25_2
     try clear hfz25_3
     try clear hfz25_4
     try clear hfz25_5
     try clear hfz27_0
     try clear hfz27_1
     try clear hfz27_2
     try clear hfz27_3
     try clear hfz27_4
     try clear hfz27_5
     try clear hfz28_0
     try clear hfz28_1
     try clear hfz28_2
     try clear hfz28_3
     try clear hfz28_4
     try clear hfz28_5
     try clear p2
     obtain ⟨x5_2, rfl, HA, HK2, BK388, BK389, HB⟩ := hrel
     cases gk with
     | zero => exact absurd HA.out (by simp [shutterref10_Same.l0])
     | succ k2 =>
      have H := HA.out
      clear HA
      simp only [shutterref10_Same.l0] at H
      by_cases c30 : x5_2 < (l0_2.length : Int)
      ·rw [if_pos c30] at H
       have c30b0 : decide (x5_2 < (l0_2.length : Int)) = true := decide_eq_true c30
       clear c30
       by_cases c31 : 0 ≤ x5_2
       ·rw [if_pos c31] at H
        have c31b0 : decide (0 ≤ x5_2) = true := decide_eq_true c31
        clear c31
        by_cases c32 : x5_2 < (l1_2.length : Int)
        ·rw [if_pos c32] at H
         have c32b0 : decide (x5_2 < (l1_2.length : Int)) = true := decide_eq_true c32
         clear c32
         by_cases c33 : (!(((rd_T35 l0_2 x5_2).f0) == ((rd_T35 l1_2 x5_2).f0)) || ((!(((rd_T35 l0_2 x5_2).f1.f0) == ((rd_T35 l1_2 x5_2).f1.f0)) || (!(((rd_T35 l0_2 x5_2).f1.f1) == ((rd_T35 l1_2 x5_2).f1.f1)) || (!(((rd_T35 l0_2 x5_2).f1.f2) == ((rd_T35 l1_2 x5_2).f1.f2)) || (!(((rd_T35 l0_2 x5_2).f1.f3) == ((rd_T35 l1_2 x5_2).f1.f3)))))) || (!(((rd_T35 l0_2 x5_2).f2) == ((rd_T35 l1_2 x5_2).f2))))) = true
         ·rw [if_pos c33] at H
          have c33b0 : (!(((rd_T35 l0_2 x5_2).f0) == ((rd_T35 l1_2 x5_2).f0)) || ((!(((rd_T35 l0_2 x5_2).f1.f0) == ((rd_T35 l1_2 x5_2).f1.f0)) || (!(((rd_T35 l0_2 x5_2).f1.f1) == ((rd_T35 l1_2 x5_2).f1.f1)) || (!(((rd_T35 l0_2 x5_2).f1.f2) == ((rd_T35 l1_2 x5_2).f1.f2)) || (!(((rd_T35 l0_2 x5_2).f1.f3) == ((rd_T35 l1_2 x5_2).f1.f3)))))) || (!(((rd_T35 l0_2 x5_2).f2) == ((rd_T35 l1_2 x5_2).f2))))) = true := c33
          clear c33
          obtain rfl := Option.some.inj H
          have hnb34 := NB388_389.out
          have hnc34 := NB389_388.out
          obtain ⟨hcz35_0, hcz35_1, hcz35_2, hcz35_3, hcz35_4, hcz35_5, hfz35_0, hfz35_1, hfz35_2, hfz35_3, hfz35_4, hfz35_5⟩ := cells6 (show wr.heap[gb388]? = some (.cells #[.int .i64 a0_0, .int .i64 a0_1, .slice A0_2 l0_2.length c0_2, .int .i64 a0_3, .bool a0_4, .bool a0_5] _ (0, 0)) from BK388.out)
          have p390 : 0 ≤ (x5_2 : Int) := of_decide_eq_true (by first | (with_reducible assumption) | assumption)
          have q390 : x5_2 < (l0_2.length : Int) := of_decide_eq_true (by first | (with_reducible assumption) | assumption)
          obtain ⟨ad390, e390, hx390_0, hx390_1, hx390_2, hx390_3, hx390_4, hx390_5⟩ := at_T35 HR0_2.out x5_2 p390 q390
          cases e390
          replace hx390_0 := (HB.out.cell (World.block_lt_of_cell? w _ hx390_0)).trans hx390_0
          replace hx390_1 := (HB.out.cell (World.block_lt_of_cell? w _ hx390_1)).trans hx390_1
          replace hx390_2 := (HB.out.cell (World.block_lt_of_cell? w _ hx390_2)).trans hx390_2
          replace hx390_3 := (HB.out.cell (World.block_lt_of_cell? w _ hx390_3)).trans hx390_3
          replace hx390_4 := (HB.out.cell (World.block_lt_of_cell? w _ hx390_4)).trans hx390_4
          replace hx390_5 := (HB.out.cell (World.block_lt_of_cell? w _ hx390_5)).trans hx390_5
          replace p390 := eq_true p390
          replace q390 := eq_true q390
          obtain ⟨hcz36_0, hcz36_1, hcz36_2, hcz36_3, hcz36_4, hcz36_5, hfz36_0, hfz36_1, hfz36_2, hfz36_3, hfz36_4, hfz36_5⟩ := cells6 (show wr.heap[gb389]? = some (.cells #[.int .i64 a1_0, .int .i64 a1_1, .slice A1_2 l1_2.length c1_2, .int .i64 a1_3, .bool a1_4, .bool a1_5] _ (0, 0)) from BK389.out)
          have p391 : 0 ≤ (x5_2 : Int) := of_decide_eq_true (by first | (with_reducible assumption) | assumption)
          have q391 : x5_2 < (l1_2.length : Int) := of_decide_eq_true (by first | (with_reducible assumption) | assumption)
          obtain ⟨ad391, e391, hx391_0, hx391_1, hx391_2, hx391_3, hx391_4, hx391_5⟩ := at_T35 HR1_2.out x5_2 p391 q391
          cases e391
          replace hx391_0 := (HB.out.cell (World.block_lt_of_cell? w _ hx391_0)).trans hx391_0
          replace hx391_1 := (HB.out.cell (World.block_lt_of_cell? w _ hx391_1)).trans hx391_1
          replace hx391_2 := (HB.out.cell (World.block_lt_of_cell? w _ hx391_2)).trans hx391_2
          replace hx391_3 := (HB.out.cell (World.block_lt_of_cell? w _ hx391_3)).trans hx391_3
          replace hx391_4 := (HB.out.cell (World.block_lt_of_cell? w _ hx391_4)).trans hx391_4
          replace hx391_5 := (HB.out.cell (World.block_lt_of_cell? w _ hx391_5)).trans hx391_5
          replace p391 := eq_true p391
          replace q391 := eq_true q391
          go_wp2
          repeat (go_quiet (fail); try go_wp2)
          go_ret
          exact ⟨by first | rfl | (simp [errW_none, errW_some] <;> rfl) | (simp [*, errW_none, errW_some] <;> rfl), bl_⟩
         ·rw [if_neg c33] at H
          have c33b0 : (!(((rd_T35 l0_2 x5_2).f0) == ((rd_T35 l1_2 x5_2).f0)) || ((!(((rd_T35 l0_2 x5_2).f1.f0) == ((rd_T35 l1_2 x5_2).f1.f0)) || (!(((rd_T35 l0_2 x5_2).f1.f1) == ((rd_T35 l1_2 x5_2).f1.f1)) || (!(((rd_T35 l0_2 x5_2).f1.f2) == ((rd_T35 l1_2 x5_2).f1.f2)) || (!(((rd_T35 l0_2 x5_2).f1.f3) == ((rd_T35 l1_2 x5_2).f1.f3)))))) || (!(((rd_T35 l0_2 x5_2).f2) == ((rd_T35 l1_2 x5_2).f2))))) = false := by simpa using c33
          clear c33
          have H' := Aside0.mk H
          clear H
          have hnb37 := NB388_389.out
          have hnc37 := NB389_388.out
          obtain ⟨hcz38_0, hcz38_1, hcz38_2, hcz38_3, hcz38_4, hcz38_5, hfz38_0, hfz38_1, hfz38_2, hfz38_3, hfz38_4, hfz38_5⟩ := cells6 (show wr.heap[gb388]? = some (.cells #[.int .i64 a0_0, .int .i64 a0_1, .slice A0_2 l0_2.length c0_2, .int .i64 a0_3, .bool a0_4, .bool a0_5] _ (0, 0)) from BK388.out)
          have p390 : 0 ≤ (x5_2 : Int) := of_decide_eq_true (by first | (with_reducible assumption) | assumption)
          have q390 : x5_2 < (l0_2.length : Int) := of_decide_eq_true (by first | (with_reducible assumption) | assumption)
          obtain ⟨ad390, e390, hx390_0, hx390_1, hx390_2, hx390_3, hx390_4, hx390_5⟩ := at_T35 HR0_2.out x5_2 p390 q390
          cases e390
          replace hx390_0 := (HB.out.cell (World.block_lt_of_cell? w _ hx390_0)).trans hx390_0
          replace hx390_1 := (HB.out.cell (World.block_lt_of_cell? w _ hx390_1)).trans hx390_1
          replace hx390_2 := (HB.out.cell (World.block_lt_of_cell? w _ hx390_2)).trans hx390_2
          replace hx390_3 := (HB.out.cell (World.block_lt_of_cell? w _ hx390_3)).trans hx390_3
          replace hx390_4 := (HB.out.cell (World.block_lt_of_cell? w _ hx390_4)).trans hx390_4
          replace hx390_5 := (HB.out.cell (World.block_lt_of_cell? w _ hx390_5)).trans hx390_5
          replace p390 := eq_true p390
          replace q390 := eq_true q390
          obtain ⟨hcz39_0, hcz39_1, hcz39_2, hcz39_3, hcz39_4, hcz39_5, hfz39_0, hfz39_1, hfz39_2, hfz39_3, hfz39_4, hfz39_5⟩ := cells6 (show wr.heap[gb389]? = some (.cells #[.int .i64 a1_0, .int .i64 a1_1, .slice A1_2 l1_2.length c1_2, .int .i64 a1_3, .bool a1_4, .bool a1_5] _ (0, 0)) from BK389.out)
          have p391 : 0 ≤ (x5_2 : Int) := of_decide_eq_true (by first | (with_reducible assumption) | assumption)
          have q391 : x5_2 < (l1_2.length : Int) := of_decide_eq_true (by first | (with_reducible assumption) | assumption)
          obtain ⟨ad391, e391, hx391_0, hx391_1, hx391_2, hx391_3, hx391_4, hx391_5⟩ := at_T35 HR1_2.out x5_2 p391 q391
          cases e391
          replace hx391_0 := (HB.out.cell (World.block_lt_of_cell? w _ hx391_0)).trans hx391_0
          replace hx391_1 := (HB.out.cell (World.block_lt_of_cell? w _ hx391_1)).trans hx391_1
          replace hx391_2 := (HB.out.cell (World.block_lt_of_cell? w _ hx391_2)).trans hx391_2
          replace hx391_3 := (HB.out.cell (World.block_lt_of_cell? w _ hx391_3)).trans hx391_3
          replace hx391_4 := (HB.out.cell (World.block_lt_of_cell? w _ hx391_4)).trans hx391_4
          replace hx391_5 := (HB.out.cell (World.block_lt_of_cell? w _ hx391_5)).trans hx391_5
          replace p391 := eq_true p391
          replace q391 := eq_true q391
          go_wp2
          repeat (go_quiet (fail); try go_wp2)
          go_roundg k2
          case measure => have := HJ2.out; have := HK2.out; omega
          case rel => exact ⟨(wrap64 (x5_2 + 1)), (by first | rfl | (simp; done) | (simp [*]; done)), H', ⟨by have := HJ2.out; have := HK2.out; omega⟩, ⟨by (with_reducible repeat apply pK); exact BK388.out⟩, ⟨by (with_reducible repeat apply pK); exact BK389.out⟩, ⟨bl_⟩⟩
        ·rw [if_neg c32] at H
         exact absurd H (by simp)
       ·rw [if_neg c31] at H
        exact absurd H (by simp)
      ·rw [if_neg c30] at H
       have c30b0 : decide (x5_2 < (l0_2.length : Int)) = false := decide_eq_false c30
       clear c30
       obtain rfl := Option.some.inj H
       have hnb40 := NB388_389.out
       have hnc40 := NB389_388.out
       obtain ⟨hcz41_0, hcz41_1, hcz41_2, hcz41_3, hcz41_4, hcz41_5, hfz41_0, hfz41_1, hfz41_2, hfz41_3, hfz41_4, hfz41_5⟩ := cells6 (show wr.heap[gb388]? = some (.cells #[.int .i64 a0_0, .int .i64 a0_1, .slice A0_2 l0_2.length c0_2, .int .i64 a0_3, .bool a0_4, .bool a0_5] _ (0, 0)) from BK388.out)
       go_wp2
       repeat (go_quiet (fail); try go_wp2)
       go_ret
       exact ⟨by first | rfl | (simp [errW_none, errW_some] <;> rfl) | (simp [*, errW_none, errW_some] <;> rfl), bl_⟩

end Go.Proofs.YtggecanpjkpkiaaDoor.P
