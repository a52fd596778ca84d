/- The functions of the seat's laws as plain Lean functions, and that Go's code comes to just their answers. Written by pp.py (wip/tools), a program of this session, on the kit's print. -/
import Derived.Test.YtggecanpjkpkiaaDoorPx0
import Derived.Test.YtggecanpjkpkiaaDoorPx6
import Derived.Test.YtggecanpjkpkiaaDoorPx7
namespace Go.Proofs.YtggecanpjkpkiaaDoor.P
open Go.RowKit Go.Proofs.YtggecanpjkpkiaaDoorW.PrintWords Go.Proofs.YtggecanpjkpkiaaDoorW.PrintLast Go.Proofs.YtggecanpjkpkiaaDoorW.PrintMore
attribute [local go_sem] max2_int min2_int max_two min_two max_three min_three max_four min_four   -- for this text's walks alone
attribute [local go_sem] Instr.field asAgg
set_option linter.unusedVariables false
set_option linter.unusedSimpArgs false

/-! ### edit_onward: function 56 -/
def edit_onward.j0 : Nat → Int → Bool → Int → Int → List (S35) → Int → Bool → Bool → Option (Int)
 | 0, _, _, _, _, _, _, _, _ => none
 | k + 1, x3, x26, x166000, x166001, x166002, x166003, x166004, x166005 => if x26 = true then ((field_Next.f x166000 x166001 x166002 x166003 x166004 x166005 x3).bind fun t169 => (if t169 ≥ 0 then (some t169) else ((grid_On.f x166000 x166001 x166002 x166003 x166004 x166005 x3 1).bind fun t170 => (some t170)))) else ((grid_On.f x166000 x166001 x166002 x166003 x166004 x166005 x3 1).bind fun t171 => (some t171))
def edit_onward.f (k : Nat) (a0_0 : Int) (a0_1 : Int) (l0_2 : List (S35)) (a0_3 : Int) (a0_4 : Bool) (a0_5 : Bool) : Option (Int) := (grid_On.f a0_0 a0_1 l0_2 a0_3 a0_4 a0_5 a0_3 1).bind fun t166 => (if 0 ≤ t166 then (if t166 < (l0_2.length : Int) then (if ((rd_T35 l0_2 t166).f0 = true) then (if (rd_T35 l0_2 t166).f1.f0 = true then (edit_onward.j0 k t166 ((rd_T35 l0_2 t166).f1.f1) a0_0 a0_1 l0_2 a0_3 a0_4 a0_5) else (edit_onward.j0 k t166 false a0_0 a0_1 l0_2 a0_3 a0_4 a0_5)) else (some t166)) else (none)) else (none))
theorem edit_onward.mono_l : ∀ k, (∀ y0 y1 y2 y3 y4 y5 y6 y7, LeO (edit_onward.j0 k y0 y1 y2 y3 y4 y5 y6 y7) (edit_onward.j0 (k + 1) y0 y1 y2 y3 y4 y5 y6 y7))
 | 0 => fun _ _ _ _ _ _ _ _ r h => by simp [edit_onward.j0] at h
 | k + 1 => by
  have ih0 := edit_onward.mono_l k
  ·intro y0 y1 y2 y3 y4 y5 y6 y7
   unfold edit_onward.j0
   repeat' first
   | (with_reducible exact ih0 _ _ _ _ _ _ _ _)
   | (with_reducible exact LeO.refl _)
   | (with_reducible exact LeO.none _)
   | (with_reducible refine LeO.ite ?_ ?_)
   | (with_reducible refine LeO.bind ?_ (fun _ => ?_))
   | exact ih0 _ _ _ _ _ _ _ _
   | exact LeO.none _
   | refine LeO.ite ?_ ?_
   | refine LeO.bind ?_ (fun _ => ?_)
theorem edit_onward.mono : ∀ a0 a1 a2 a3 a4 a5 k, LeO (edit_onward.f k a0 a1 a2 a3 a4 a5) (edit_onward.f (k + 1) a0 a1 a2 a3 a4 a5) := by
 intro a0 a1 a2 a3 a4 a5 k
 have ih0 := edit_onward.mono_l k
 unfold edit_onward.f
 repeat' first
   | (with_reducible exact ih0 _ _ _ _ _ _ _ _)
   | (with_reducible exact LeO.refl _)
   | (with_reducible exact LeO.none _)
   | (with_reducible refine LeO.ite ?_ ?_)
   | (with_reducible refine LeO.bind ?_ (fun _ => ?_))
   | exact ih0 _ _ _ _ _ _ _ _
   | exact LeO.none _
   | refine LeO.ite ?_ ?_
   | refine LeO.bind ?_ (fun _ => ?_)
set_option maxHeartbeats 8000000 in
set_option maxRecDepth 100000 in
theorem edit_onward.calls (k : Nat) (a0_0 : Int) (a0_1 : Int) (A0_2 : Option Addr) (c0_2 : Nat) (l0_2 : List (S35)) (a0_3 : Int) (a0_4 : Bool) (a0_5 : Bool) (r : Int) (w : World) (hr0_2 : Kd.C k35 w A0_2 l0_2.length l0_2) (hc0_2 : l0_2.length ≤ c0_2) (h : edit_onward.f k a0_0 a0_1 l0_2 a0_3 a0_4 a0_5 = some r) :
  Calls Tryd.prog 56 #[.agg #[.int .i64 a0_0, .int .i64 a0_1, .slice A0_2 l0_2.length c0_2, .int .i64 a0_3, .bool a0_4, .bool a0_5]] w fun e w' => e = .returned (.int .i64 r) ∧ Below w.heap.size w w' := by
 have hu24 := Tryd.underlying24
 have hu35 := Tryd.underlying35
 have HR0_2 := Aside0.mk hr0_2
 have HC0_2 := Aside0.mk hc0_2
 clear hr0_2 hc0_2
 have HB := Aside0.mk (Below.refl w.heap.size w)
 have H : ((grid_On.f a0_0 a0_1 l0_2 a0_3 a0_4 a0_5 a0_3 1).bind fun t166 => (if 0 ≤ t166 then (if t166 < (l0_2.length : Int) then (if ((rd_T35 l0_2 t166).f0 = true) then (if (rd_T35 l0_2 t166).f1.f0 = true then (edit_onward.j0 k t166 ((rd_T35 l0_2 t166).f1.f1) a0_0 a0_1 l0_2 a0_3 a0_4 a0_5) else (edit_onward.j0 k t166 false a0_0 a0_1 l0_2 a0_3 a0_4 a0_5)) else (some t166)) else (none)) else (none))) = some r := h
 clear h
 replace H := Option.bind_eq_some_iff.mp H
 obtain ⟨t166, A20, H⟩ := H
 replace H : (if 0 ≤ t166 then (if t166 < (l0_2.length : Int) then (if ((rd_T35 l0_2 t166).f0 = true) then (if (rd_T35 l0_2 t166).f1.f0 = true then (edit_onward.j0 k t166 ((rd_T35 l0_2 t166).f1.f1) a0_0 a0_1 l0_2 a0_3 a0_4 a0_5) else (edit_onward.j0 k t166 false a0_0 a0_1 l0_2 a0_3 a0_4 a0_5)) else (some t166)) else (none)) else (none)) = some r := H
 have A2 := Aside0.mk A20
 clear A20
 by_cases c3 : 0 ≤ t166
 ·rw [if_pos c3] at H
  have c3b0 : decide (0 ≤ t166) = true := decide_eq_true c3
  clear c3
  by_cases c4 : t166 < (l0_2.length : Int)
  ·rw [if_pos c4] at H
   have c4b0 : decide (t166 < (l0_2.length : Int)) = true := decide_eq_true c4
   clear c4
   obtain ⟨bq5, hbq5⟩ : ∃ b_ : Bool, b_ = ((rd_T35 l0_2 t166).f0) := ⟨_, rfl⟩
   replace H : (if (bq5 = true) then (if (rd_T35 l0_2 t166).f1.f0 = true then (edit_onward.j0 k t166 ((rd_T35 l0_2 t166).f1.f1) a0_0 a0_1 l0_2 a0_3 a0_4 a0_5) else (edit_onward.j0 k t166 false a0_0 a0_1 l0_2 a0_3 a0_4 a0_5)) else (some t166)) = some r := by rw [← hbq5] at H; exact H
   have Nbq5 := Aside0.mk hbq5
   clear hbq5
   by_cases c6 : (bq5 = true)
   ·subst c6
    have H1 : (if (rd_T35 l0_2 t166).f1.f0 = true then (edit_onward.j0 k t166 ((rd_T35 l0_2 t166).f1.f1) a0_0 a0_1 l0_2 a0_3 a0_4 a0_5) else (edit_onward.j0 k t166 false a0_0 a0_1 l0_2 a0_3 a0_4 a0_5)) = some r := by rw [if_pos rfl] at H; exact H
    clear H
    have H := H1
    clear H1
    have HC7 := Aside0.mk H
    clear H
    go_enter Tryd.func56, Tryd.ntmps56
    go_upto_region 5 with (first | ((with_reducible refine gate_dst (N := 1) rfl ?_); refine box_event ?hg (N := 1) ?hd (cs := #[.int .i64 a0_0, .int .i64 a0_1, .slice A0_2 l0_2.length c0_2, .int .i64 a0_3, .bool a0_4, .bool a0_5]) (t := 24) ?hr ?_; (case hd => rfl); (case hg => rfl); (case hr => first | (go_simp; done) | (go_simp; rfl)); intro gb165 hg w8 hbox hb; have n0_ := Aside0.mk (below_step bl_ hb); have n1_ := Aside0.mk (hbox); have n2_ := Aside0.mk ((le_new hg (below_size bl_) : w.heap.size ≤ gb165)); have n3_ := Aside0.mk ((le_new hg (below_size bl_) : w.heap.size ≤ gb165)); clear HB; have HB := n0_; have BK165 := n1_; have GW165 := n2_; have GE165 := n3_; clear n0_ n1_ n2_ n3_; clear hb hbox hg; obtain ⟨hcz9_0, hcz9_1, hcz9_2, hcz9_3, hcz9_4, hcz9_5, hfz9_0, hfz9_1, hfz9_2, hfz9_3, hfz9_4, hfz9_5⟩ := cells6 (show w8.heap[gb165]? = some (.cells #[.int .i64 a0_0, .int .i64 a0_1, .slice A0_2 l0_2.length c0_2, .int .i64 a0_3, .bool a0_4, .bool a0_5] _ (0, 0)) from BK165.out)) | ((with_reducible refine gate_callee (f := 80) rfl ?_); refine goesL_ (some 9) rfl rfl Tryd.func80 (by kernel_rfl) rfl #[.agg #[.int .i64 a0_0, .int .i64 a0_1, .slice A0_2 l0_2.length c0_2, .int .i64 a0_3, .bool a0_4, .bool a0_5], .int .i64 a0_3, .int .i64 1] rfl ag_ ?_; (with_reducible refine (grid_On.calls a0_0 a0_1 _ _ l0_2 a0_3 a0_4 a0_5 a0_3 1 t166 _ ?side1 ?side2 A2.out).mono ?_); (case side1 => repeat (first | exact (Kd.C_below HR0_2.out HB.out) | (with_reducible apply pC))); (case side2 => exact HC0_2.out); rintro e w10 ⟨rfl, hb⟩; refine ⟨_, rfl, ?_⟩; have n0_ := Aside0.mk (blk_below (g := gb165) (o := .cells #[.int .i64 a0_0, .int .i64 a0_1, .slice A0_2 l0_2.length c0_2, .int .i64 a0_3, .bool a0_4, .bool a0_5] 24 (0, 0)) (by (with_reducible repeat apply pK); exact BK165.out) hb); have n1_ := Aside0.mk (below_step bl_ hb); clear BK165; clear HB; have BK165 := n0_; have HB := n1_; clear n0_ n1_; (try clear hb); (try clear hb2); (try clear hk); (try clear hi); obtain ⟨hcz11_0, hcz11_1, hcz11_2, hcz11_3, hcz11_4, hcz11_5, hfz11_0, hfz11_1, hfz11_2, hfz11_3, hfz11_4, hfz11_5⟩ := cells6 (show w10.heap[gb165]? = some (.cells #[.int .i64 a0_0, .int .i64 a0_1, .slice A0_2 l0_2.length c0_2, .int .i64 a0_3, .bool a0_4, .bool a0_5] _ (0, 0)) from BK165.out); have p167 : 0 ≤ (t166 : Int) := of_decide_eq_true (by first | (with_reducible assumption) | assumption); have q167 : t166 < (l0_2.length : Int) := of_decide_eq_true (by first | (with_reducible assumption) | assumption); obtain ⟨ad167, e167, hx167_0, hx167_1, hx167_2, hx167_3, hx167_4, hx167_5⟩ := at_T35 HR0_2.out t166 p167 q167; (try rw [← Nbq5.out] at hx167_0); (try rw [← Nbq5.out] at hx167_1); (try rw [← Nbq5.out] at hx167_2); (try rw [← Nbq5.out] at hx167_4); cases e167; replace hx167_0 := (HB.out.cell (World.block_lt_of_cell? w _ hx167_0)).trans hx167_0; replace hx167_1 := (HB.out.cell (World.block_lt_of_cell? w _ hx167_1)).trans hx167_1; replace hx167_2 := (HB.out.cell (World.block_lt_of_cell? w _ hx167_2)).trans hx167_2; replace hx167_3 := (HB.out.cell (World.block_lt_of_cell? w _ hx167_3)).trans hx167_3; replace hx167_4 := (HB.out.cell (World.block_lt_of_cell? w _ hx167_4)).trans hx167_4; replace hx167_5 := (HB.out.cell (World.block_lt_of_cell? w _ hx167_5)).trans hx167_5; replace p167 := eq_true p167; replace q167 := eq_true q167) | ((with_reducible refine gate_dst (N := 4) rfl ?_); refine box_event ?hg (N := 4) ?hd (cs := #[.bool false, .bool false, .bool false, .int .i64 0, .bool false, .int .u8 0]) (t := 35) ?hr ?_; (case hd => rfl); (case hg => rfl); (case hr => first | (go_simp; done) | (go_simp; rfl)); intro gb168 hg w12 hbox hb; have n0_ := Aside0.mk (blk_below (g := gb165) (o := .cells #[.int .i64 a0_0, .int .i64 a0_1, .slice (some ad167) l0_2.length c0_2, .int .i64 a0_3, .bool a0_4, .bool a0_5] 24 (0, 0)) (by (with_reducible repeat apply pK); exact BK165.out) hb); have n1_ := Aside0.mk (below_step bl_ hb); have n2_ := Aside0.mk (hbox); have n3_ := Aside0.mk ((le_new hg (below_size bl_) : w.heap.size ≤ gb168)); have n4_ := Aside0.mk ((le_new hg (below_size bl_) : w.heap.size ≤ gb168)); have n5_ := Aside0.mk ((by rw [hg]; exact Nat.ne_of_lt (blk_lt (g := gb165) (o := .cells #[.int .i64 a0_0, .int .i64 a0_1, .slice (some ad167) l0_2.length c0_2, .int .i64 a0_3, .bool a0_4, .bool a0_5] 24 (0, 0)) (by (with_reducible repeat apply pK); exact BK165.out)) : gb165 ≠ gb168)); have n6_ := Aside0.mk ((by rw [hg]; exact Nat.ne_of_gt (blk_lt (g := gb165) (o := .cells #[.int .i64 a0_0, .int .i64 a0_1, .slice (some ad167) l0_2.length c0_2, .int .i64 a0_3, .bool a0_4, .bool a0_5] 24 (0, 0)) (by (with_reducible repeat apply pK); exact BK165.out)) : gb168 ≠ gb165)); clear BK165; clear HB; have BK165 := n0_; have HB := n1_; have BK168 := n2_; have GW168 := n3_; have GE168 := n4_; have NB165_168 := n5_; have NB168_165 := n6_; clear n0_ n1_ n2_ n3_ n4_ n5_ n6_; clear hb hbox hg; have hnb13 := NB168_165.out; have hnc13 := NB165_168.out; obtain ⟨hcz14_0, hcz14_1, hcz14_2, hcz14_3, hcz14_4, hcz14_5, hfz14_0, hfz14_1, hfz14_2, hfz14_3, hfz14_4, hfz14_5⟩ := cells6 (show w12.heap[gb168]? = some (.cells #[.bool false, .bool false, .bool false, .int .i64 0, .bool false, .int .u8 0] _ (0, 0)) from BK168.out)))
    (try simp only [Act.put, List.setIfInBounds_toArray, List.set_cons_zero, List.set_cons_succ])
    go_cut [26] (fun v26 wc => ∃ (kq : Nat) (x26_6 : Bool), v26 = .bool x26_6 ∧ Aside0 (edit_onward.j0 kq t166 x26_6 a0_0 a0_1 l0_2 a0_3 a0_4 a0_5 = some r) ∧ Aside0 (kq ≤ k) ∧ Aside0 (wc.heap[gb165]? = some (.cells #[.int .i64 a0_0, .int .i64 a0_1, (.slice (some ad167) l0_2.length c0_2), .int .i64 a0_3, .bool a0_4, .bool a0_5] 24 (0, 0))) ∧ Aside0 (wc.heap[gb168]? = some (.cells #[.bool true, .bool ((rd_T35 l0_2 t166).f1.f0), .bool ((rd_T35 l0_2 t166).f1.f1), .int .i64 ((rd_T35 l0_2 t166).f1.f2), .bool ((rd_T35 l0_2 t166).f1.f3), .int .u8 ((rd_T35 l0_2 t166).f2)] 35 (0, 0))) ∧ Aside0 (Below w.heap.size w wc))
    case first =>
     have H := HC7.out
     clear HC7
     obtain ⟨bq15, hbq15⟩ : ∃ b_ : Bool, b_ = ((rd_T35 l0_2 t166).f1.f0) := ⟨_, rfl⟩
     replace H : (if bq15 = true then (edit_onward.j0 k t166 ((rd_T35 l0_2 t166).f1.f1) a0_0 a0_1 l0_2 a0_3 a0_4 a0_5) else (edit_onward.j0 k t166 false a0_0 a0_1 l0_2 a0_3 a0_4 a0_5)) = some r := by rw [← hbq15] at H; exact H
     have Nbq15 := Aside0.mk hbq15
     clear hbq15
     (try rw [← Nbq15.out])
     by_cases c16 : bq15 = true
     ·subst c16
      have H1 : (edit_onward.j0 k t166 ((rd_T35 l0_2 t166).f1.f1) a0_0 a0_1 l0_2 a0_3 a0_4 a0_5) = some r := by rw [if_pos rfl] at H; exact H
      clear H
      have H := H1
      clear H1
      have H' := Aside0.mk H
      clear H
      have hnb17 := NB168_165.out
      have hnc17 := NB165_168.out
      obtain ⟨hcz18_0, hcz18_1, hcz18_2, hcz18_3, hcz18_4, hcz18_5, hfz18_0, hfz18_1, hfz18_2, hfz18_3, hfz18_4, hfz18_5⟩ := cells6 (show w12.heap[gb168]? = some (.cells #[.bool false, .bool false, .bool false, .int .i64 0, .bool false, .int .u8 0] _ (0, 0)) from BK168.out)
      go_wp2
      go_meet
      case rel => exact ⟨_, ((rd_T35 l0_2 t166).f1.f1), (by first | rfl | (simp; done) | (simp [*]; done)), H', ⟨by first | omega | exact Nat.le_refl _⟩, ⟨by (with_reducible repeat apply pK); refine blk_far ?_ NB165_168.out _; (with_reducible repeat apply pK); refine blk_far ?_ NB165_168.out _; (with_reducible repeat apply pK); refine blk_far ?_ NB165_168.out _; (with_reducible repeat apply pK); refine blk_far ?_ NB165_168.out _; (with_reducible repeat apply pK); refine blk_far ?_ NB165_168.out _; (with_reducible repeat apply pK); refine blk_far ?_ NB165_168.out _; (with_reducible repeat apply pK); exact BK165.out⟩, ⟨by (with_reducible repeat apply pK); refine blk_put (cs := #[.bool true, .bool (true), .bool ((rd_T35 l0_2 t166).f1.f1), .int .i64 ((rd_T35 l0_2 t166).f1.f2), .bool ((rd_T35 l0_2 t166).f1.f3), .int .u8 0]) ?_ 5 _ (by first | rfl | (simp only [← Nbq5.out, ← Nbq15.out]; rfl) | (simp [← Nbq5.out, ← Nbq15.out]; done)); (with_reducible repeat apply pK); refine blk_put (cs := #[.bool true, .bool (true), .bool ((rd_T35 l0_2 t166).f1.f1), .int .i64 ((rd_T35 l0_2 t166).f1.f2), .bool false, .int .u8 0]) ?_ 4 _ (by first | rfl | (simp only [← Nbq5.out, ← Nbq15.out]; rfl) | (simp [← Nbq5.out, ← Nbq15.out]; done)); (with_reducible repeat apply pK); refine blk_put (cs := #[.bool true, .bool (true), .bool ((rd_T35 l0_2 t166).f1.f1), .int .i64 0, .bool false, .int .u8 0]) ?_ 3 _ (by first | rfl | (simp only [← Nbq5.out, ← Nbq15.out]; rfl) | (simp [← Nbq5.out, ← Nbq15.out]; done)); (with_reducible repeat apply pK); refine blk_put (cs := #[.bool true, .bool (true), .bool false, .int .i64 0, .bool false, .int .u8 0]) ?_ 2 _ (by first | rfl | (simp only [← Nbq5.out, ← Nbq15.out]; rfl) | (simp [← Nbq5.out, ← Nbq15.out]; done)); (with_reducible repeat apply pK); refine blk_put (cs := #[.bool true, .bool false, .bool false, .int .i64 0, .bool false, .int .u8 0]) ?_ 1 _ (by first | rfl | (simp only [← Nbq5.out, ← Nbq15.out]; rfl) | (simp [← Nbq5.out, ← Nbq15.out]; done)); (with_reducible repeat apply pK); refine blk_put (cs := #[.bool false, .bool false, .bool false, .int .i64 0, .bool false, .int .u8 0]) ?_ 0 _ (by first | rfl | (simp only [← Nbq5.out, ← Nbq15.out]; rfl) | (simp [← Nbq5.out, ← Nbq15.out]; done)); (with_reducible repeat apply pK); exact BK168.out⟩, ⟨bl_⟩⟩
     ·replace c16 := Bool.eq_false_iff.mpr c16
      subst c16
      have H1 : (edit_onward.j0 k t166 false a0_0 a0_1 l0_2 a0_3 a0_4 a0_5) = some r := by rw [if_neg (show ¬ (false = true) by decide)] at H; exact H
      clear H
      have H := H1
      clear H1
      have H' := Aside0.mk H
      clear H
      have hnb19 := NB168_165.out
      have hnc19 := NB165_168.out
      obtain ⟨hcz20_0, hcz20_1, hcz20_2, hcz20_3, hcz20_4, hcz20_5, hfz20_0, hfz20_1, hfz20_2, hfz20_3, hfz20_4, hfz20_5⟩ := cells6 (show w12.heap[gb168]? = some (.cells #[.bool false, .bool false, .bool false, .int .i64 0, .bool false, .int .u8 0] _ (0, 0)) from BK168.out)
      go_wp2
      go_meet
      case rel => exact ⟨_, (false), (by first | rfl | (simp; done) | (simp [*]; done)), H', ⟨by first | omega | exact Nat.le_refl _⟩, ⟨by (with_reducible repeat apply pK); refine blk_far ?_ NB165_168.out _; (with_reducible repeat apply pK); refine blk_far ?_ NB165_168.out _; (with_reducible repeat apply pK); refine blk_far ?_ NB165_168.out _; (with_reducible repeat apply pK); refine blk_far ?_ NB165_168.out _; (with_reducible repeat apply pK); refine blk_far ?_ NB165_168.out _; (with_reducible repeat apply pK); refine blk_far ?_ NB165_168.out _; (with_reducible repeat apply pK); exact BK165.out⟩, ⟨by (with_reducible repeat apply pK); refine blk_put (cs := #[.bool true, .bool (false), .bool ((rd_T35 l0_2 t166).f1.f1), .int .i64 ((rd_T35 l0_2 t166).f1.f2), .bool ((rd_T35 l0_2 t166).f1.f3), .int .u8 0]) ?_ 5 _ (by first | rfl | (simp only [← Nbq5.out, ← Nbq15.out]; rfl) | (simp [← Nbq5.out, ← Nbq15.out]; done)); (with_reducible repeat apply pK); refine blk_put (cs := #[.bool true, .bool (false), .bool ((rd_T35 l0_2 t166).f1.f1), .int .i64 ((rd_T35 l0_2 t166).f1.f2), .bool false, .int .u8 0]) ?_ 4 _ (by first | rfl | (simp only [← Nbq5.out, ← Nbq15.out]; rfl) | (simp [← Nbq5.out, ← Nbq15.out]; done)); (with_reducible repeat apply pK); refine blk_put (cs := #[.bool true, .bool (false), .bool ((rd_T35 l0_2 t166).f1.f1), .int .i64 0, .bool false, .int .u8 0]) ?_ 3 _ (by first | rfl | (simp only [← Nbq5.out, ← Nbq15.out]; rfl) | (simp [← Nbq5.out, ← Nbq15.out]; done)); (with_reducible repeat apply pK); refine blk_put (cs := #[.bool true, .bool (false), .bool false, .int .i64 0, .bool false, .int .u8 0]) ?_ 2 _ (by first | rfl | (simp only [← Nbq5.out, ← Nbq15.out]; rfl) | (simp [← Nbq5.out, ← Nbq15.out]; done)); (with_reducible repeat apply pK); refine blk_put (cs := #[.bool true, .bool false, .bool false, .int .i64 0, .bool false, .int .u8 0]) ?_ 1 _ (by first | rfl | (simp only [← Nbq5.out, ← Nbq15.out]; rfl) | (simp [← Nbq5.out, ← Nbq15.out]; done)); (with_reducible repeat apply pK); refine blk_put (cs := #[.bool false, .bool false, .bool false, .int .i64 0, .bool false, .int .u8 0]) ?_ 0 _ (by first | rfl | (simp only [← Nbq5.out, ← Nbq15.out]; rfl) | (simp [← Nbq5.out, ← Nbq15.out]; done)); (with_reducible repeat apply pK); exact BK168.out⟩, ⟨bl_⟩⟩
    case rest =>
     clear HC7
     try clear c1
     try clear p1
     try clear q1
     try clear hx1
     try clear p2
     try clear c3
     try clear c3b0
     try clear c4
     try clear c4b0
     try clear c5
     try clear q5
     try clear c6
     try clear c8
     try clear c13
     try clear q15
     try clear c16
     try clear p16
     try clear q16
     try clear hx16
     try clear c17
     try clear c19
     try clear hcz11_0
     try clear hcz11_1
     try clear hcz11_2
     try clear hcz11_3
     try clear hcz11_4
     try clear hcz11_5
     try clear hcz14_0
     try clear hcz14_1
     try clear hcz14_2
     try clear hcz14_3
     try clear hcz14_4
     try clear hcz14_5
     try clear hcz18_0
     try clear hcz18_1
     try clear hcz18_2
     try clear hcz18_3
     try clear hcz18_4
     try clear hcz18_5
     try clear hcz20_0
     try clear hcz20_1
     try clear hcz20_2
     try clear hcz20_3
     try clear hcz20_4
     try clear hcz20_5
     try clear hcz9_0
     try clear hcz9_1
     try clear hcz9_2
     try clear hcz9_3
     try clear hcz9_4
     try clear hcz9_5
     try clear hfz11_0
     try clear hfz11_1
     try clear hfz11_2
     try clear hfz11_3
     try clear hfz11_4
     try clear hfz11_5
     try clear hfz14_0
     try clear hfz14_1
     try clear hfz14_2
     try clear hfz14_3
     try clear hfz14_4
     try clear hfz14_5
     try clear hfz18_0
     try clear hfz18_1
     try clear hfz18_2
     try clear hfz18_3
     try clear hfz18_4
     try clear hfz18_5
     try clear hfz20_0
     try clear hfz20_1
     try clear hfz20_2
     try clear hfz20_3
     try clear hfz20_4
     try clear hfz20_5
     try clear hfz9_0
     try clear hfz9_1
     try clear hfz9_2
     try clear hfz9_3
     try clear hfz9_4
     try clear hfz9_5
     try clear hx167_0
     try clear hx167_1
     try clear hx167_2
     try clear hx167_3
     try clear hx167_4
     try clear hx167_5
     try clear p167
     try clear q167
     obtain ⟨kq, x26_6, rfl, HA, HJ6, BK165, BK168, HB⟩ := hcut
     cases kq with
     | zero => exact absurd HA.out (by simp [edit_onward.j0])
     | succ kj6 =>
      have H := HA.out
      clear HA
      simp only [edit_onward.j0] at H
      by_cases c21 : x26_6 = true
      ·subst c21
       have H1 : ((field_Next.f a0_0 a0_1 l0_2 a0_3 a0_4 a0_5 t166).bind fun t169 => (if t169 ≥ 0 then (some t169) else ((grid_On.f a0_0 a0_1 l0_2 a0_3 a0_4 a0_5 t166 1).bind fun t170 => (some t170)))) = some r := by rw [if_pos rfl] at H; exact H
       clear H
       have H := H1
       clear H1
       replace H := Option.bind_eq_some_iff.mp H
       obtain ⟨t169, A220, H⟩ := H
       replace H : (if t169 ≥ 0 then (some t169) else ((grid_On.f a0_0 a0_1 l0_2 a0_3 a0_4 a0_5 t166 1).bind fun t170 => (some t170))) = some r := H
       have A22 := Aside0.mk A220
       clear A220
       by_cases c23 : t169 ≥ 0
       ·rw [if_pos c23] at H
        have c23b0 : decide (0 ≤ t169) = true := decide_eq_true c23
        clear c23
        obtain rfl := Option.some.inj H
        have hnb24 := NB165_168.out
        have hnc24 := NB168_165.out
        obtain ⟨hcz25_0, hcz25_1, hcz25_2, hcz25_3, hcz25_4, hcz25_5, hfz25_0, hfz25_1, hfz25_2, hfz25_3, hfz25_4, hfz25_5⟩ := cells6 (show wc.heap[gb165]? = some (.cells #[.int .i64 a0_0, .int .i64 a0_1, .slice (some ad167) l0_2.length c0_2, .int .i64 a0_3, .bool a0_4, .bool a0_5] _ (0, 0)) from BK165.out)
        go_wp2_with (first | ((with_reducible refine gate_callee (f := 67) rfl ?_); refine goesL_ (some 29) rfl rfl Tryd.func67 (by kernel_rfl) rfl #[.agg #[.int .i64 a0_0, .int .i64 a0_1, .slice (some ad167) l0_2.length c0_2, .int .i64 a0_3, .bool a0_4, .bool a0_5], .int .i64 t166] rfl ag_ ?_; (with_reducible refine (field_Next.calls a0_0 a0_1 _ _ l0_2 a0_3 a0_4 a0_5 t166 t169 _ ?side1 ?side2 A22.out).mono ?_); (case side1 => repeat (first | exact (Kd.C_below HR0_2.out HB.out) | (with_reducible apply pC))); (case side2 => exact HC0_2.out); rintro e w26 ⟨rfl, hb⟩; refine ⟨_, rfl, ?_⟩; have n0_ := Aside0.mk (blk_below (g := gb165) (o := .cells #[.int .i64 a0_0, .int .i64 a0_1, .slice (some ad167) l0_2.length c0_2, .int .i64 a0_3, .bool a0_4, .bool a0_5] 24 (0, 0)) (by (with_reducible repeat apply pK); exact BK165.out) hb); have n1_ := Aside0.mk (blk_below (g := gb168) (o := .cells #[.bool true, .bool ((rd_T35 l0_2 t166).f1.f0), .bool ((rd_T35 l0_2 t166).f1.f1), .int .i64 ((rd_T35 l0_2 t166).f1.f2), .bool ((rd_T35 l0_2 t166).f1.f3), .int .u8 ((rd_T35 l0_2 t166).f2)] 35 (0, 0)) (by (with_reducible repeat apply pK); exact BK168.out) hb); have n2_ := Aside0.mk (below_step bl_ hb); clear BK165; clear BK168; clear HB; have BK165 := n0_; have BK168 := n1_; have HB := n2_; clear n0_ n1_ n2_; (try clear hb); (try clear hb2); (try clear hk); (try clear hi)))
        go_ret
        exact ⟨by first | rfl | (simp [errW_none, errW_some] <;> rfl) | (simp [*, errW_none, errW_some] <;> rfl), bl_⟩
       ·rw [if_neg c23] at H
        have c23b0 : decide (0 ≤ t169) = false := decide_eq_false c23
        clear c23
        replace H := Option.bind_eq_some_iff.mp H
        obtain ⟨t170, A270, H⟩ := H
        replace H : (some t170) = some r := H
        have A27 := Aside0.mk A270
        clear A270
        obtain rfl := Option.some.inj H
        have hnb28 := NB165_168.out
        have hnc28 := NB168_165.out
        obtain ⟨hcz29_0, hcz29_1, hcz29_2, hcz29_3, hcz29_4, hcz29_5, hfz29_0, hfz29_1, hfz29_2, hfz29_3, hfz29_4, hfz29_5⟩ := cells6 (show wc.heap[gb165]? = some (.cells #[.int .i64 a0_0, .int .i64 a0_1, .slice (some ad167) l0_2.length c0_2, .int .i64 a0_3, .bool a0_4, .bool a0_5] _ (0, 0)) from BK165.out)
        go_wp2_with (first | ((with_reducible refine gate_callee (f := 67) rfl ?_); refine goesL_ (some 29) rfl rfl Tryd.func67 (by kernel_rfl) rfl #[.agg #[.int .i64 a0_0, .int .i64 a0_1, .slice (some ad167) l0_2.length c0_2, .int .i64 a0_3, .bool a0_4, .bool a0_5], .int .i64 t166] rfl ag_ ?_; (with_reducible refine (field_Next.calls a0_0 a0_1 _ _ l0_2 a0_3 a0_4 a0_5 t166 t169 _ ?side1 ?side2 A22.out).mono ?_); (case side1 => repeat (first | exact (Kd.C_below HR0_2.out HB.out) | (with_reducible apply pC))); (case side2 => exact HC0_2.out); rintro e w30 ⟨rfl, hb⟩; refine ⟨_, rfl, ?_⟩; have n0_ := Aside0.mk (blk_below (g := gb165) (o := .cells #[.int .i64 a0_0, .int .i64 a0_1, .slice (some ad167) l0_2.length c0_2, .int .i64 a0_3, .bool a0_4, .bool a0_5] 24 (0, 0)) (by (with_reducible repeat apply pK); exact BK165.out) hb); have n1_ := Aside0.mk (blk_below (g := gb168) (o := .cells #[.bool true, .bool ((rd_T35 l0_2 t166).f1.f0), .bool ((rd_T35 l0_2 t166).f1.f1), .int .i64 ((rd_T35 l0_2 t166).f1.f2), .bool ((rd_T35 l0_2 t166).f1.f3), .int .u8 ((rd_T35 l0_2 t166).f2)] 35 (0, 0)) (by (with_reducible repeat apply pK); exact BK168.out) hb); have n2_ := Aside0.mk (below_step bl_ hb); clear BK165; clear BK168; clear HB; have BK165 := n0_; have BK168 := n1_; have HB := n2_; clear n0_ n1_ n2_; (try clear hb); (try clear hb2); (try clear hk); (try clear hi); obtain ⟨hcz31_0, hcz31_1, hcz31_2, hcz31_3, hcz31_4, hcz31_5, hfz31_0, hfz31_1, hfz31_2, hfz31_3, hfz31_4, hfz31_5⟩ := cells6 (show w30.heap[gb165]? = some (.cells #[.int .i64 a0_0, .int .i64 a0_1, .slice (some ad167) l0_2.length c0_2, .int .i64 a0_3, .bool a0_4, .bool a0_5] _ (0, 0)) from BK165.out)) | ((with_reducible refine gate_callee (f := 80) rfl ?_); refine goesL_ (some 35) rfl rfl Tryd.func80 (by kernel_rfl) rfl #[.agg #[.int .i64 a0_0, .int .i64 a0_1, .slice (some ad167) l0_2.length c0_2, .int .i64 a0_3, .bool a0_4, .bool a0_5], .int .i64 t166, .int .i64 1] rfl ag_ ?_; (with_reducible refine (grid_On.calls a0_0 a0_1 _ _ l0_2 a0_3 a0_4 a0_5 t166 1 t170 _ ?side1 ?side2 A27.out).mono ?_); (case side1 => repeat (first | exact (Kd.C_below HR0_2.out HB.out) | (with_reducible apply pC))); (case side2 => exact HC0_2.out); rintro e w32 ⟨rfl, hb⟩; refine ⟨_, rfl, ?_⟩; have n0_ := Aside0.mk (blk_below (g := gb165) (o := .cells #[.int .i64 a0_0, .int .i64 a0_1, .slice (some ad167) l0_2.length c0_2, .int .i64 a0_3, .bool a0_4, .bool a0_5] 24 (0, 0)) (by (with_reducible repeat apply pK); exact BK165.out) hb); have n1_ := Aside0.mk (blk_below (g := gb168) (o := .cells #[.bool true, .bool ((rd_T35 l0_2 t166).f1.f0), .bool ((rd_T35 l0_2 t166).f1.f1), .int .i64 ((rd_T35 l0_2 t166).f1.f2), .bool ((rd_T35 l0_2 t166).f1.f3), .int .u8 ((rd_T35 l0_2 t166).f2)] 35 (0, 0)) (by (with_reducible repeat apply pK); exact BK168.out) hb); have n2_ := Aside0.mk (below_step bl_ hb); clear BK165; clear BK168; clear HB; have BK165 := n0_; have BK168 := n1_; have HB := n2_; clear n0_ n1_ n2_; (try clear hb); (try clear hb2); (try clear hk); (try clear hi)))
        go_ret
        exact ⟨by first | rfl | (simp [errW_none, errW_some] <;> rfl) | (simp [*, errW_none, errW_some] <;> rfl), bl_⟩
      ·replace c21 := Bool.eq_false_iff.mpr c21
       subst c21
       have H1 : ((grid_On.f a0_0 a0_1 l0_2 a0_3 a0_4 a0_5 t166 1).bind fun t171 => (some t171)) = some r := by rw [if_neg (show ¬ (false = true) by decide)] at H; exact H
       clear H
       have H := H1
       clear H1
       replace H := Option.bind_eq_some_iff.mp H
       obtain ⟨t171, A330, H⟩ := H
       replace H : (some t171) = some r := H
       have A33 := Aside0.mk A330
       clear A330
       obtain rfl := Option.some.inj H
       have hnb34 := NB165_168.out
       have hnc34 := NB168_165.out
       obtain ⟨hcz35_0, hcz35_1, hcz35_2, hcz35_3, hcz35_4, hcz35_5, hfz35_0, hfz35_1, hfz35_2, hfz35_3, hfz35_4, hfz35_5⟩ := cells6 (show wc.heap[gb165]? = some (.cells #[.int .i64 a0_0, .int .i64 a0_1, .slice (some ad167) l0_2.length c0_2, .int .i64 a0_3, .bool a0_4, .bool a0_5] _ (0, 0)) from BK165.out)
       go_wp2_with (first | ((with_reducible refine gate_callee (f := 80) rfl ?_); refine goesL_ (some 35) rfl rfl Tryd.func80 (by kernel_rfl) rfl #[.agg #[.int .i64 a0_0, .int .i64 a0_1, .slice (some ad167) l0_2.length c0_2, .int .i64 a0_3, .bool a0_4, .bool a0_5], .int .i64 t166, .int .i64 1] rfl ag_ ?_; (with_reducible refine (grid_On.calls a0_0 a0_1 _ _ l0_2 a0_3 a0_4 a0_5 t166 1 t171 _ ?side1 ?side2 A33.out).mono ?_); (case side1 => repeat (first | exact (Kd.C_below HR0_2.out HB.out) | (with_reducible apply pC))); (case side2 => exact HC0_2.out); rintro e w36 ⟨rfl, hb⟩; refine ⟨_, rfl, ?_⟩; have n0_ := Aside0.mk (blk_below (g := gb165) (o := .cells #[.int .i64 a0_0, .int .i64 a0_1, .slice (some ad167) l0_2.length c0_2, .int .i64 a0_3, .bool a0_4, .bool a0_5] 24 (0, 0)) (by (with_reducible repeat apply pK); exact BK165.out) hb); have n1_ := Aside0.mk (blk_below (g := gb168) (o := .cells #[.bool true, .bool ((rd_T35 l0_2 t166).f1.f0), .bool ((rd_T35 l0_2 t166).f1.f1), .int .i64 ((rd_T35 l0_2 t166).f1.f2), .bool ((rd_T35 l0_2 t166).f1.f3), .int .u8 ((rd_T35 l0_2 t166).f2)] 35 (0, 0)) (by (with_reducible repeat apply pK); exact BK168.out) hb); have n2_ := Aside0.mk (below_step bl_ hb); clear BK165; clear BK168; clear HB; have BK165 := n0_; have BK168 := n1_; have HB := n2_; clear n0_ n1_ n2_; (try clear hb); (try clear hb2); (try clear hk); (try clear hi)))
       go_ret
       exact ⟨by first | rfl | (simp [errW_none, errW_some] <;> rfl) | (simp [*, errW_none, errW_some] <;> rfl), bl_⟩
   ·replace c6 := Bool.eq_false_iff.mpr c6
    subst c6
    have H1 : (some t166) = some r := by rw [if_neg (show ¬ (false = true) by decide)] at H; exact H
    clear H
    have H := H1
    clear H1
    obtain rfl := Option.some.inj H
    go_enter Tryd.func56, Tryd.ntmps56
    go_wp2_with (first | ((with_reducible refine gate_dst (N := 1) rfl ?_); refine box_event ?hg (N := 1) ?hd (cs := #[.int .i64 a0_0, .int .i64 a0_1, .slice A0_2 l0_2.length c0_2, .int .i64 a0_3, .bool a0_4, .bool a0_5]) (t := 24) ?hr ?_; (case hd => rfl); (case hg => rfl); (case hr => first | (go_simp; done) | (go_simp; rfl)); intro gb165 hg w37 hbox hb; have n0_ := Aside0.mk (below_step bl_ hb); have n1_ := Aside0.mk (hbox); have n2_ := Aside0.mk ((le_new hg (below_size bl_) : w.heap.size ≤ gb165)); have n3_ := Aside0.mk ((le_new hg (below_size bl_) : w.heap.size ≤ gb165)); clear HB; have HB := n0_; have BK165 := n1_; have GW165 := n2_; have GE165 := n3_; clear n0_ n1_ n2_ n3_; clear hb hbox hg; obtain ⟨hcz38_0, hcz38_1, hcz38_2, hcz38_3, hcz38_4, hcz38_5, hfz38_0, hfz38_1, hfz38_2, hfz38_3, hfz38_4, hfz38_5⟩ := cells6 (show w37.heap[gb165]? = some (.cells #[.int .i64 a0_0, .int .i64 a0_1, .slice A0_2 l0_2.length c0_2, .int .i64 a0_3, .bool a0_4, .bool a0_5] _ (0, 0)) from BK165.out)) | ((with_reducible refine gate_callee (f := 80) rfl ?_); refine goesL_ (some 9) rfl rfl Tryd.func80 (by kernel_rfl) rfl #[.agg #[.int .i64 a0_0, .int .i64 a0_1, .slice A0_2 l0_2.length c0_2, .int .i64 a0_3, .bool a0_4, .bool a0_5], .int .i64 a0_3, .int .i64 1] rfl ag_ ?_; (with_reducible refine (grid_On.calls a0_0 a0_1 _ _ l0_2 a0_3 a0_4 a0_5 a0_3 1 t166 _ ?side1 ?side2 A2.out).mono ?_); (case side1 => repeat (first | exact (Kd.C_below HR0_2.out HB.out) | (with_reducible apply pC))); (case side2 => exact HC0_2.out); rintro e w39 ⟨rfl, hb⟩; refine ⟨_, rfl, ?_⟩; have n0_ := Aside0.mk (blk_below (g := gb165) (o := .cells #[.int .i64 a0_0, .int .i64 a0_1, .slice A0_2 l0_2.length c0_2, .int .i64 a0_3, .bool a0_4, .bool a0_5] 24 (0, 0)) (by (with_reducible repeat apply pK); exact BK165.out) hb); have n1_ := Aside0.mk (below_step bl_ hb); clear BK165; clear HB; have BK165 := n0_; have HB := n1_; clear n0_ n1_; (try clear hb); (try clear hb2); (try clear hk); (try clear hi); obtain ⟨hcz40_0, hcz40_1, hcz40_2, hcz40_3, hcz40_4, hcz40_5, hfz40_0, hfz40_1, hfz40_2, hfz40_3, hfz40_4, hfz40_5⟩ := cells6 (show w39.heap[gb165]? = some (.cells #[.int .i64 a0_0, .int .i64 a0_1, .slice A0_2 l0_2.length c0_2, .int .i64 a0_3, .bool a0_4, .bool a0_5] _ (0, 0)) from BK165.out); have p167 : 0 ≤ (t166 : Int) := of_decide_eq_true (by first | (with_reducible assumption) | assumption); have q167 : t166 < (l0_2.length : Int) := of_decide_eq_true (by first | (with_reducible assumption) | assumption); obtain ⟨ad167, e167, hx167_0, hx167_1, hx167_2, hx167_3, hx167_4, hx167_5⟩ := at_T35 HR0_2.out t166 p167 q167; (try rw [← Nbq5.out] at hx167_0); (try rw [← Nbq5.out] at hx167_1); (try rw [← Nbq5.out] at hx167_2); (try rw [← Nbq5.out] at hx167_4); cases e167; replace hx167_0 := (HB.out.cell (World.block_lt_of_cell? w _ hx167_0)).trans hx167_0; replace hx167_1 := (HB.out.cell (World.block_lt_of_cell? w _ hx167_1)).trans hx167_1; replace hx167_2 := (HB.out.cell (World.block_lt_of_cell? w _ hx167_2)).trans hx167_2; replace hx167_3 := (HB.out.cell (World.block_lt_of_cell? w _ hx167_3)).trans hx167_3; replace hx167_4 := (HB.out.cell (World.block_lt_of_cell? w _ hx167_4)).trans hx167_4; replace hx167_5 := (HB.out.cell (World.block_lt_of_cell? w _ hx167_5)).trans hx167_5; replace p167 := eq_true p167; replace q167 := eq_true q167) | ((with_reducible refine gate_dst (N := 4) rfl ?_); refine box_event ?hg (N := 4) ?hd (cs := #[.bool false, .bool false, .bool false, .int .i64 0, .bool false, .int .u8 0]) (t := 35) ?hr ?_; (case hd => rfl); (case hg => rfl); (case hr => first | (go_simp; done) | (go_simp; rfl)); intro gb168 hg w41 hbox hb; have n0_ := Aside0.mk (blk_below (g := gb165) (o := .cells #[.int .i64 a0_0, .int .i64 a0_1, .slice (some ad167) l0_2.length c0_2, .int .i64 a0_3, .bool a0_4, .bool a0_5] 24 (0, 0)) (by (with_reducible repeat apply pK); exact BK165.out) hb); have n1_ := Aside0.mk (below_step bl_ hb); have n2_ := Aside0.mk (hbox); have n3_ := Aside0.mk ((le_new hg (below_size bl_) : w.heap.size ≤ gb168)); have n4_ := Aside0.mk ((le_new hg (below_size bl_) : w.heap.size ≤ gb168)); have n5_ := Aside0.mk ((by rw [hg]; exact Nat.ne_of_lt (blk_lt (g := gb165) (o := .cells #[.int .i64 a0_0, .int .i64 a0_1, .slice (some ad167) l0_2.length c0_2, .int .i64 a0_3, .bool a0_4, .bool a0_5] 24 (0, 0)) (by (with_reducible repeat apply pK); exact BK165.out)) : gb165 ≠ gb168)); have n6_ := Aside0.mk ((by rw [hg]; exact Nat.ne_of_gt (blk_lt (g := gb165) (o := .cells #[.int .i64 a0_0, .int .i64 a0_1, .slice (some ad167) l0_2.length c0_2, .int .i64 a0_3, .bool a0_4, .bool a0_5] 24 (0, 0)) (by (with_reducible repeat apply pK); exact BK165.out)) : gb168 ≠ gb165)); clear BK165; clear HB; have BK165 := n0_; have HB := n1_; have BK168 := n2_; have GW168 := n3_; have GE168 := n4_; have NB165_168 := n5_; have NB168_165 := n6_; clear n0_ n1_ n2_ n3_ n4_ n5_ n6_; clear hb hbox hg; have hnb42 := NB168_165.out; have hnc42 := NB165_168.out; obtain ⟨hcz43_0, hcz43_1, hcz43_2, hcz43_3, hcz43_4, hcz43_5, hfz43_0, hfz43_1, hfz43_2, hfz43_3, hfz43_4, hfz43_5⟩ := cells6 (show w41.heap[gb168]? = some (.cells #[.bool false, .bool false, .bool false, .int .i64 0, .bool false, .int .u8 0] _ (0, 0)) from BK168.out)))
    go_ret
    exact ⟨by first | rfl | (simp [errW_none, errW_some] <;> rfl) | (simp [*, errW_none, errW_some] <;> rfl), bl_⟩
  ·rw [if_neg c4] at H
   exact absurd H (by simp)
 ·rw [if_neg c3] at H
  exact absurd H (by simp)

end Go.Proofs.YtggecanpjkpkiaaDoor.P
