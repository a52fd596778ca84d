/- The functions of the seat's laws as plain Lean functions, and that Go's code comes to just their answers. Written by pp.py (wip/tools), a program of this session, on the kit's print. -/
import Derived.Test.YtggecanpjkpkiaaDoorPx0
import Derived.Test.YtggecanpjkpkiaaDoorPx3
import Derived.Test.YtggecanpjkpkiaaDoorPx4
import Derived.Test.YtggecanpjkpkiaaDoorPx6
namespace Go.Proofs.YtggecanpjkpkiaaDoor.P
open Go.RowKit Go.Proofs.YtggecanpjkpkiaaDoorW.PrintWords Go.Proofs.YtggecanpjkpkiaaDoorW.PrintLast Go.Proofs.YtggecanpjkpkiaaDoorW.PrintMore
attribute [local go_sem] max2_int min2_int max_two min_two max_three min_three max_four min_four   -- for this text's walks alone
attribute [local go_sem] Instr.field asAgg
set_option linter.unusedVariables false
set_option linter.unusedSimpArgs false

/-! ### field_enters: function 99 -/
def field_enters.f (a0_0 : Int) (a0_1 : Int) (l0_2 : List (S35)) (a0_3 : Int) (a0_4 : Bool) (a0_5 : Bool) (a1 : Int) : Option (Bool) := if 0 ≤ a1 then (if a1 < (l0_2.length : Int) then (if (rd_T35 l0_2 a1).f0 = true then (if ((rd_T35 l0_2 a1).f1.f0 = true) then (some false) else ((grid_On.f a0_0 a0_1 l0_2 a0_3 a0_4 a0_5 a1 1).bind fun t163 => (if 0 ≤ t163 then (if t163 < (l0_2.length : Int) then (some (!((rd_T35 l0_2 t163).f0))) else (none)) else (none)))) else (some false)) else (none)) else (none)
def field_enters.T2 : Bool × List (List Nat × List Nat) := (true, [([], []), ([0], [0]), ([1], [1]), ([2], [2]), ([3, 2], [2, 3]), ([4, 2], [2, 4]), ([5, 2], [2, 5]), ([2, 6], [2, 6]), ([7, 2], [7]), ([8], [8]), ([9, 8], [8, 9]), ([8], [8]), ([8], [8]), ([11, 12, 8, 8], [8, 11, 12]), ([10, 13, 8], [8, 10, 13]), ([14, 8], [8, 14]), ([15, 8], [8, 15]), ([16, 8], [8, 16]), ([8, 17], [8, 17]), ([18, 13, 0, 1, 2, 3, 4, 5, 6, 7, 8, 9, 10, 11, 12, 13, 14, 15, 16, 17, 18], [18])])
def field_enters.B2 : List Nat := [0, 1, 3, 7, 15, 31, 63, 127, 255, 511, 1023, 511, 511, 6655, 16383, 32767, 65535, 131071, 262143, 524287]
theorem field_enters.tab2 : rtab .any (opsOf Tryd.f99 2) = field_enters.T2 := by kernel_rfl
theorem field_enters.bits2 : waitsOk field_enters.T2.2 field_enters.B2 = true := by kernel_rfl
set_option maxHeartbeats 8000000 in
set_option maxRecDepth 100000 in
theorem field_enters.calls (a0_0 : Int) (a0_1 : Int) (A0_2 : Option Addr) (c0_2 : Nat) (l0_2 : List (S35)) (a0_3 : Int) (a0_4 : Bool) (a0_5 : Bool) (a1 : Int) (r : Bool) (w : World) (hr0_2 : Kd.C k35 w A0_2 l0_2.length l0_2) (hc0_2 : l0_2.length ≤ c0_2) (h : field_enters.f a0_0 a0_1 l0_2 a0_3 a0_4 a0_5 a1 = some r) :
  Calls Tryd.prog 99 #[.agg #[.int .i64 a0_0, .int .i64 a0_1, .slice A0_2 l0_2.length c0_2, .int .i64 a0_3, .bool a0_4, .bool a0_5], .int .i64 a1] w fun e w' => e = .returned (.bool r) ∧ Below w.heap.size w w' := by
 have hu24 := Tryd.underlying24
 have hu35 := Tryd.underlying35
 have HR0_2 := Aside0.mk hr0_2
 have HC0_2 := Aside0.mk hc0_2
 clear hr0_2 hc0_2
 have HB := Aside0.mk (Below.refl w.heap.size w)
 have H : (if 0 ≤ a1 then (if a1 < (l0_2.length : Int) then (if (rd_T35 l0_2 a1).f0 = true then (if ((rd_T35 l0_2 a1).f1.f0 = true) then (some false) else ((grid_On.f a0_0 a0_1 l0_2 a0_3 a0_4 a0_5 a1 1).bind fun t163 => (if 0 ≤ t163 then (if t163 < (l0_2.length : Int) then (some (!((rd_T35 l0_2 t163).f0))) else (none)) else (none)))) else (some false)) else (none)) else (none)) = some r := h
 clear h
 by_cases c3 : 0 ≤ a1
 ·rw [if_pos c3] at H
  have c3b0 : decide (0 ≤ a1) = true := decide_eq_true c3
  clear c3
  by_cases c4 : a1 < (l0_2.length : Int)
  ·rw [if_pos c4] at H
   have c4b0 : decide (a1 < (l0_2.length : Int)) = true := decide_eq_true c4
   clear c4
   obtain ⟨bq5, hbq5⟩ : ∃ b_ : Bool, b_ = ((rd_T35 l0_2 a1).f0) := ⟨_, rfl⟩
   replace H : (if bq5 = true then (if ((rd_T35 l0_2 a1).f1.f0 = true) then (some false) else ((grid_On.f a0_0 a0_1 l0_2 a0_3 a0_4 a0_5 a1 1).bind fun t163 => (if 0 ≤ t163 then (if t163 < (l0_2.length : Int) then (some (!((rd_T35 l0_2 t163).f0))) else (none)) else (none)))) else (some false)) = some r := by rw [← hbq5] at H; exact H
   have Nbq5 := Aside0.mk hbq5
   clear hbq5
   by_cases c6 : bq5 = true
   ·subst c6
    have H1 : (if ((rd_T35 l0_2 a1).f1.f0 = true) then (some false) else ((grid_On.f a0_0 a0_1 l0_2 a0_3 a0_4 a0_5 a1 1).bind fun t163 => (if 0 ≤ t163 then (if t163 < (l0_2.length : Int) then (some (!((rd_T35 l0_2 t163).f0))) else (none)) else (none)))) = some r := by rw [if_pos rfl] at H; exact H
    clear H
    have H := H1
    clear H1
    obtain ⟨bq7, hbq7⟩ : ∃ b_ : Bool, b_ = ((rd_T35 l0_2 a1).f1.f0) := ⟨_, rfl⟩
    replace H : (if (bq7 = true) then (some false) else ((grid_On.f a0_0 a0_1 l0_2 a0_3 a0_4 a0_5 a1 1).bind fun t163 => (if 0 ≤ t163 then (if t163 < (l0_2.length : Int) then (some (!((rd_T35 l0_2 t163).f0))) else (none)) else (none)))) = some r := by rw [← hbq7] at H; exact H
    have Nbq7 := Aside0.mk hbq7
    clear hbq7
    by_cases c8 : (bq7 = true)
    ·subst c8
     have H1 : (some false) = some r := by rw [if_pos rfl] at H; exact H
     clear H
     have H := H1
     clear H1
     obtain rfl := Option.some.inj H
     go_enter Tryd.func99, Tryd.ntmps99
     try go_wp2_with (first | ((with_reducible refine gate_dst (N := 2) rfl ?_); refine box_event ?hg (N := 2) ?hd (cs := #[.int .i64 a0_0, .int .i64 a0_1, .slice A0_2 l0_2.length c0_2, .int .i64 a0_3, .bool a0_4, .bool a0_5]) (t := 24) ?hr ?_; (case hd => rfl); (case hg => rfl); (case hr => first | (go_simp; done) | (go_simp; rfl)); intro gb160 hg w9 hbox hb; have n0_ := Aside0.mk (below_step bl_ hb); have n1_ := Aside0.mk (hbox); have n2_ := Aside0.mk ((le_new hg (below_size bl_) : w.heap.size ≤ gb160)); have n3_ := Aside0.mk ((le_new hg (below_size bl_) : w.heap.size ≤ gb160)); clear HB; have HB := n0_; have BK160 := n1_; have GW160 := n2_; have GE160 := n3_; clear n0_ n1_ n2_ n3_; clear hb hbox hg; obtain ⟨hcz10_0, hcz10_1, hcz10_2, hcz10_3, hcz10_4, hcz10_5, hfz10_0, hfz10_1, hfz10_2, hfz10_3, hfz10_4, hfz10_5⟩ := cells6 (show w9.heap[gb160]? = some (.cells #[.int .i64 a0_0, .int .i64 a0_1, .slice A0_2 l0_2.length c0_2, .int .i64 a0_3, .bool a0_4, .bool a0_5] _ (0, 0)) from BK160.out); have p161 : 0 ≤ (a1 : Int) := of_decide_eq_true (by first | (with_reducible assumption) | assumption); have q161 : a1 < (l0_2.length : Int) := of_decide_eq_true (by first | (with_reducible assumption) | assumption); obtain ⟨ad161, e161, hx161_0, hx161_1, hx161_2, hx161_3, hx161_4, hx161_5⟩ := at_T35 HR0_2.out a1 p161 q161; (try rw [← Nbq5.out] at hx161_0); (try rw [← Nbq7.out] at hx161_0); (try rw [← Nbq5.out] at hx161_1); (try rw [← Nbq7.out] at hx161_1); (try rw [← Nbq5.out] at hx161_2); (try rw [← Nbq7.out] at hx161_2); (try rw [← Nbq5.out] at hx161_4); (try rw [← Nbq7.out] at hx161_4); cases e161; replace hx161_0 := (HB.out.cell (World.block_lt_of_cell? w _ hx161_0)).trans hx161_0; replace hx161_1 := (HB.out.cell (World.block_lt_of_cell? w _ hx161_1)).trans hx161_1; replace hx161_2 := (HB.out.cell (World.block_lt_of_cell? w _ hx161_2)).trans hx161_2; replace hx161_3 := (HB.out.cell (World.block_lt_of_cell? w _ hx161_3)).trans hx161_3; replace hx161_4 := (HB.out.cell (World.block_lt_of_cell? w _ hx161_4)).trans hx161_4; replace hx161_5 := (HB.out.cell (World.block_lt_of_cell? w _ hx161_5)).trans hx161_5; replace p161 := eq_true p161; replace q161 := eq_true q161) | ((with_reducible refine gate_dst (N := 5) rfl ?_); refine box_event ?hg (N := 5) ?hd (cs := #[.bool false, .bool false, .bool false, .int .i64 0, .bool false, .int .u8 0]) (t := 35) ?hr ?_; (case hd => rfl); (case hg => rfl); (case hr => first | (go_simp; done) | (go_simp; rfl)); intro gb162 hg w11 hbox hb; have n0_ := Aside0.mk (blk_below (g := gb160) (o := .cells #[.int .i64 a0_0, .int .i64 a0_1, .slice (some ad161) l0_2.length c0_2, .int .i64 a0_3, .bool a0_4, .bool a0_5] 24 (0, 0)) (by (with_reducible repeat apply pK); exact BK160.out) hb); have n1_ := Aside0.mk (below_step bl_ hb); have n2_ := Aside0.mk (hbox); have n3_ := Aside0.mk ((le_new hg (below_size bl_) : w.heap.size ≤ gb162)); have n4_ := Aside0.mk ((le_new hg (below_size bl_) : w.heap.size ≤ gb162)); have n5_ := Aside0.mk ((by rw [hg]; exact Nat.ne_of_lt (blk_lt (g := gb160) (o := .cells #[.int .i64 a0_0, .int .i64 a0_1, .slice (some ad161) l0_2.length c0_2, .int .i64 a0_3, .bool a0_4, .bool a0_5] 24 (0, 0)) (by (with_reducible repeat apply pK); exact BK160.out)) : gb160 ≠ gb162)); have n6_ := Aside0.mk ((by rw [hg]; exact Nat.ne_of_gt (blk_lt (g := gb160) (o := .cells #[.int .i64 a0_0, .int .i64 a0_1, .slice (some ad161) l0_2.length c0_2, .int .i64 a0_3, .bool a0_4, .bool a0_5] 24 (0, 0)) (by (with_reducible repeat apply pK); exact BK160.out)) : gb162 ≠ gb160)); clear BK160; clear HB; have BK160 := n0_; have HB := n1_; have BK162 := n2_; have GW162 := n3_; have GE162 := n4_; have NB160_162 := n5_; have NB162_160 := n6_; clear n0_ n1_ n2_ n3_ n4_ n5_ n6_; clear hb hbox hg; have hnb12 := NB162_160.out; have hnc12 := NB160_162.out; obtain ⟨hcz13_0, hcz13_1, hcz13_2, hcz13_3, hcz13_4, hcz13_5, hfz13_0, hfz13_1, hfz13_2, hfz13_3, hfz13_4, hfz13_5⟩ := cells6 (show w11.heap[gb162]? = some (.cells #[.bool false, .bool false, .bool false, .int .i64 0, .bool false, .int .u8 0] _ (0, 0)) from BK162.out)))
     have n0_ : Aside0 (((((((w11.setCell ⟨gb162, 0, none⟩ (.bool true)).setCell ⟨gb162, 1, none⟩ (.bool true)).setCell ⟨gb162, 2, none⟩ (.bool ((rd_T35 l0_2 a1).f1.f1))).setCell ⟨gb162, 3, none⟩ (.int .i64 ((rd_T35 l0_2 a1).f1.f2))).setCell ⟨gb162, 4, none⟩ (.bool ((rd_T35 l0_2 a1).f1.f3))).setCell ⟨gb162, 5, none⟩ (.int .u8 ((rd_T35 l0_2 a1).f2))).heap[gb160]? = some (.cells #[.int .i64 a0_0, .int .i64 a0_1, .slice (some ad161) l0_2.length c0_2, .int .i64 a0_3, .bool a0_4, .bool a0_5] 24 (0, 0))) := ⟨by (with_reducible repeat apply pK); refine blk_far ?_ NB160_162.out _; (with_reducible repeat apply pK); refine blk_far ?_ NB160_162.out _; (with_reducible repeat apply pK); refine blk_far ?_ NB160_162.out _; (with_reducible repeat apply pK); refine blk_far ?_ NB160_162.out _; (with_reducible repeat apply pK); refine blk_far ?_ NB160_162.out _; (with_reducible repeat apply pK); refine blk_far ?_ NB160_162.out _; (with_reducible repeat apply pK); exact BK160.out⟩
     have n1_ : Aside0 (((((((w11.setCell ⟨gb162, 0, none⟩ (.bool true)).setCell ⟨gb162, 1, none⟩ (.bool true)).setCell ⟨gb162, 2, none⟩ (.bool ((rd_T35 l0_2 a1).f1.f1))).setCell ⟨gb162, 3, none⟩ (.int .i64 ((rd_T35 l0_2 a1).f1.f2))).setCell ⟨gb162, 4, none⟩ (.bool ((rd_T35 l0_2 a1).f1.f3))).setCell ⟨gb162, 5, none⟩ (.int .u8 ((rd_T35 l0_2 a1).f2))).heap[gb162]? = some (.cells #[.bool true, .bool true, .bool ((rd_T35 l0_2 a1).f1.f1), .int .i64 ((rd_T35 l0_2 a1).f1.f2), .bool ((rd_T35 l0_2 a1).f1.f3), .int .u8 ((rd_T35 l0_2 a1).f2)] 35 (0, 0))) := ⟨by (with_reducible repeat apply pK); refine blk_put (cs := #[.bool true, .bool true, .bool ((rd_T35 l0_2 a1).f1.f1), .int .i64 ((rd_T35 l0_2 a1).f1.f2), .bool ((rd_T35 l0_2 a1).f1.f3), .int .u8 0]) ?_ 5 _ (by first | rfl | (simp only [← Nbq5.out, ← Nbq7.out]; rfl) | (simp [← Nbq5.out, ← Nbq7.out]; done)); (with_reducible repeat apply pK); refine blk_put (cs := #[.bool true, .bool true, .bool ((rd_T35 l0_2 a1).f1.f1), .int .i64 ((rd_T35 l0_2 a1).f1.f2), .bool false, .int .u8 0]) ?_ 4 _ (by first | rfl | (simp only [← Nbq5.out, ← Nbq7.out]; rfl) | (simp [← Nbq5.out, ← Nbq7.out]; done)); (with_reducible repeat apply pK); refine blk_put (cs := #[.bool true, .bool true, .bool ((rd_T35 l0_2 a1).f1.f1), .int .i64 0, .bool false, .int .u8 0]) ?_ 3 _ (by first | rfl | (simp only [← Nbq5.out, ← Nbq7.out]; rfl) | (simp [← Nbq5.out, ← Nbq7.out]; done)); (with_reducible repeat apply pK); refine blk_put (cs := #[.bool true, .bool true, .bool false, .int .i64 0, .bool false, .int .u8 0]) ?_ 2 _ (by first | rfl | (simp only [← Nbq5.out, ← Nbq7.out]; rfl) | (simp [← Nbq5.out, ← Nbq7.out]; done)); (with_reducible repeat apply pK); refine blk_put (cs := #[.bool true, .bool false, .bool false, .int .i64 0, .bool false, .int .u8 0]) ?_ 1 _ (by first | rfl | (simp only [← Nbq5.out, ← Nbq7.out]; rfl) | (simp [← Nbq5.out, ← Nbq7.out]; done)); (with_reducible repeat apply pK); refine blk_put (cs := #[.bool false, .bool false, .bool false, .int .i64 0, .bool false, .int .u8 0]) ?_ 0 _ (by first | rfl | (simp only [← Nbq5.out, ← Nbq7.out]; rfl) | (simp [← Nbq5.out, ← Nbq7.out]; done)); (with_reducible repeat apply pK); exact BK162.out⟩
     have n2_ : Aside0 (Below w.heap.size w ((((((w11.setCell ⟨gb162, 0, none⟩ (.bool true)).setCell ⟨gb162, 1, none⟩ (.bool true)).setCell ⟨gb162, 2, none⟩ (.bool ((rd_T35 l0_2 a1).f1.f1))).setCell ⟨gb162, 3, none⟩ (.int .i64 ((rd_T35 l0_2 a1).f1.f2))).setCell ⟨gb162, 4, none⟩ (.bool ((rd_T35 l0_2 a1).f1.f3))).setCell ⟨gb162, 5, none⟩ (.int .u8 ((rd_T35 l0_2 a1).f2)))) := ⟨bl_⟩
     (try clear BK160)
     (try clear BK162)
     (try clear HB)
     generalize ((((((w11.setCell ⟨gb162, 0, none⟩ (.bool true)).setCell ⟨gb162, 1, none⟩ (.bool true)).setCell ⟨gb162, 2, none⟩ (.bool ((rd_T35 l0_2 a1).f1.f1))).setCell ⟨gb162, 3, none⟩ (.int .i64 ((rd_T35 l0_2 a1).f1.f2))).setCell ⟨gb162, 4, none⟩ (.bool ((rd_T35 l0_2 a1).f1.f3))).setCell ⟨gb162, 5, none⟩ (.int .u8 ((rd_T35 l0_2 a1).f2))) = w14 at n0_ n1_ n2_ ⊢
     have BK160 := n0_
     have BK162 := n1_
     have HB := n2_
     clear n0_ n1_ n2_
     have n0_ := Aside0.mk (blk_drew BK160.out)
     have n1_ := Aside0.mk (blk_drew BK162.out)
     have n2_ := Aside0.mk (below_drew1 HB.out)
     clear BK160
     clear BK162
     clear HB
     have BK160 := n0_
     have BK162 := n1_
     have HB := n2_
     clear n0_ n1_ n2_
     refine start_ (n := 20) (S := fun w' => w'.cell? ⟨gb162, 0, none⟩ = some (.bool true) ∧ w'.cell? ⟨gb162, 1, none⟩ = some (.bool true) ∧ w'.cell? ⟨gb162, 2, none⟩ = some (.bool ((rd_T35 l0_2 a1).f1.f1)) ∧ w'.cell? ⟨gb162, 3, none⟩ = some (.int .i64 ((rd_T35 l0_2 a1).f1.f2)) ∧ w'.cell? ⟨gb162, 4, none⟩ = some (.bool ((rd_T35 l0_2 a1).f1.f3)) ∧ w'.cell? ⟨gb162, 5, none⟩ = some (.int .u8 ((rd_T35 l0_2 a1).f2))) (ds := []) #[false, false, false, false, false, false, false, false, false, false, false, false, false, false, false, false, false, false, false, false] (by kernel_rfl) rfl rfl ⟨(blk_cell BK162.out 0).trans rfl, (blk_cell BK162.out 1).trans rfl, (blk_cell BK162.out 2).trans rfl, (blk_cell BK162.out 3).trans rfl, (blk_cell BK162.out 4).trans rfl, (blk_cell BK162.out 5).trans rfl⟩ (fun hHeld => ?_); refine with_tabW field_enters.tab2 field_enters.bits2 (fun HT_ HW_ => ?_)
     generalize w14.drew = w15 at BK160 BK162 HB hHeld ⊢
     refine pure_ (i := 0) (N := some 11) (v := ?_) (a' := ?_) #[true, false, false, false, false, false, false, false, false, false, false, false, false, false, false, false, false, false, false, false] rfl rfl (any_of HT_.out (by kernel_rfl)) (fun _ _ _ h => h) (Or.inl ⟨by rfl, ?_⟩) ?_ ?_
     rotate_left
     ·intro w'
      go_simp
      with_reducible rfl
     rotate_left
     ·simp only [Act.put, List.setIfInBounds_toArray, List.set_cons_zero, List.set_cons_succ, i64_w, i32_w]
      rfl
     refine take_ (i := 1) (N := some 12) (v := ?_) (a' := ?_) #[true, true, false, false, false, false, false, false, false, false, false, false, false, false, false, false, false, false, false, false] rfl rfl (take_ofW HT_.out HW_.out (by kernel_rfl)) (fun _ _ _ h => h) (Or.inl ⟨by rfl, ?_⟩) hHeld ?_ ?_
     rotate_left
     ·rintro w' ⟨s0, s1, s2, s3, s4, s5⟩
      go_simp
      with_reducible rfl
     rotate_left
     ·simp only [Act.put, List.setIfInBounds_toArray, List.set_cons_zero, List.set_cons_succ, i64_w, i32_w]
      rfl
     refine pure_ (i := 2) (N := some 13) (v := ?_) (a' := ?_) #[true, true, true, false, false, false, false, false, false, false, false, false, false, false, false, false, false, false, false, false] rfl rfl (any_of HT_.out (by kernel_rfl)) (fun _ _ _ h => h) (Or.inl ⟨by rfl, ?_⟩) ?_ ?_
     rotate_left
     ·intro w'
      go_simp
      with_reducible rfl
     rotate_left
     ·simp only [Act.put, List.setIfInBounds_toArray, List.set_cons_zero, List.set_cons_succ, i64_w, i32_w]
      rfl
     refine pure_ (i := 3) (N := some 14) (v := ?_) (a' := ?_) #[true, true, true, true, false, false, false, false, false, false, false, false, false, false, false, false, false, false, false, false] rfl rfl (any_of HT_.out (by kernel_rfl)) (fun _ _ _ h => h) (Or.inl ⟨by rfl, ?_⟩) ?_ ?_
     rotate_left
     ·intro w'
      go_simp
      with_reducible rfl
     rotate_left
     ·simp only [Act.put, List.setIfInBounds_toArray, List.set_cons_zero, List.set_cons_succ, i64_w, i32_w]
      rfl
     refine pure_ (i := 4) (N := some 15) (v := ?_) (a' := ?_) #[true, true, true, true, true, false, false, false, false, false, false, false, false, false, false, false, false, false, false, false] rfl rfl (any_of HT_.out (by kernel_rfl)) (fun _ _ _ h => h) (Or.inl ⟨by rfl, ?_⟩) ?_ ?_
     rotate_left
     ·intro w'
      go_simp
      with_reducible rfl
     rotate_left
     ·simp only [Act.put, List.setIfInBounds_toArray, List.set_cons_zero, List.set_cons_succ, i64_w, i32_w]
      rfl
     refine take_ (i := 5) (N := some 16) (v := ?_) (a' := ?_) #[true, true, true, true, true, true, false, false, false, false, false, false, false, false, false, false, false, false, false, false] rfl rfl (take_ofW HT_.out HW_.out (by kernel_rfl)) (fun _ _ _ h => h) (Or.inl ⟨by rfl, ?_⟩) hHeld ?_ ?_
     rotate_left
     ·rintro w' ⟨s0, s1, s2, s3, s4, s5⟩
      go_simp
      with_reducible rfl
     rotate_left
     ·simp only [Act.put, List.setIfInBounds_toArray, List.set_cons_zero, List.set_cons_succ, i64_w, i32_w]
      rfl
     refine pure_ (i := 6) (N := some 17) (v := ?_) (a' := ?_) #[true, true, true, true, true, true, true, false, false, false, false, false, false, false, false, false, false, false, false, false] rfl rfl (any_of HT_.out (by kernel_rfl)) (fun _ _ _ h => h) (Or.inl ⟨by rfl, ?_⟩) ?_ ?_
     rotate_left
     ·intro w'
      go_simp
      with_reducible rfl
     rotate_left
     ·simp only [Act.put, List.setIfInBounds_toArray, List.set_cons_zero, List.set_cons_succ, i64_w, i32_w]
      rfl
     refine pure_ (i := 7) (N := some 18) (v := ?_) (a' := ?_) #[true, true, true, true, true, true, true, true, false, false, false, false, false, false, false, false, false, false, false, false] rfl rfl (any_of HT_.out (by kernel_rfl)) (fun _ _ _ h => h) (Or.inl ⟨by rfl, ?_⟩) ?_ ?_
     rotate_left
     ·intro w'
      go_simp
      with_reducible rfl
     rotate_left
     ·simp only [Act.put, List.setIfInBounds_toArray, List.set_cons_zero, List.set_cons_succ, i64_w, i32_w]
      rfl
     refine pure_ (i := 8) (N := some 19) (v := ?_) (a' := ?_) #[true, true, true, true, true, true, true, true, true, false, false, false, false, false, false, false, false, false, false, false] rfl rfl (any_of HT_.out (by kernel_rfl)) (fun _ _ _ h => h) (Or.inl ⟨by rfl, ?_⟩) ?_ ?_
     rotate_left
     ·intro w'
      go_simp
      with_reducible rfl
     rotate_left
     ·simp only [Act.put, List.setIfInBounds_toArray, List.set_cons_zero, List.set_cons_succ, i64_w, i32_w]
      rfl
     refine pure_ (i := 9) (N := some 20) (v := undef) (a' := ?_) #[true, true, true, true, true, true, true, true, true, true, false, false, false, false, false, false, false, false, false, false] rfl rfl (any_of HT_.out (by kernel_rfl)) (fun _ _ _ h => h) (Or.inr ⟨by rfl, rfl⟩) ?_ ?_
     rotate_left
     ·simp only [Act.put, List.setIfInBounds_toArray, List.set_cons_zero, List.set_cons_succ, i64_w, i32_w]
      rfl
     refine pure_ (i := 10) (N := some 21) (v := undef) (a' := ?_) #[true, true, true, true, true, true, true, true, true, true, true, false, false, false, false, false, false, false, false, false] rfl rfl (any_of HT_.out (by kernel_rfl)) (fun _ _ _ h => h) (Or.inr ⟨by rfl, rfl⟩) ?_ ?_
     rotate_left
     ·simp only [Act.put, List.setIfInBounds_toArray, List.set_cons_zero, List.set_cons_succ, i64_w, i32_w]
      rfl
     refine pure_ (i := 11) (N := some 22) (v := undef) (a' := ?_) #[true, true, true, true, true, true, true, true, true, true, true, true, false, false, false, false, false, false, false, false] rfl rfl (any_of HT_.out (by kernel_rfl)) (fun _ _ _ h => h) (Or.inr ⟨by rfl, rfl⟩) ?_ ?_
     rotate_left
     ·simp only [Act.put, List.setIfInBounds_toArray, List.set_cons_zero, List.set_cons_succ, i64_w, i32_w]
      rfl
     refine pure_ (i := 12) (N := some 23) (v := undef) (a' := ?_) #[true, true, true, true, true, true, true, true, true, true, true, true, true, false, false, false, false, false, false, false] rfl rfl (any_of HT_.out (by kernel_rfl)) (fun _ _ _ h => h) (Or.inr ⟨by rfl, rfl⟩) ?_ ?_
     rotate_left
     ·simp only [Act.put, List.setIfInBounds_toArray, List.set_cons_zero, List.set_cons_succ, i64_w, i32_w]
      rfl
     refine pure_ (i := 13) (N := some 24) (v := undef) (a' := ?_) #[true, true, true, true, true, true, true, true, true, true, true, true, true, true, false, false, false, false, false, false] rfl rfl (any_of HT_.out (by kernel_rfl)) (fun _ _ _ h => h) (Or.inr ⟨by rfl, rfl⟩) ?_ ?_
     rotate_left
     ·simp only [Act.put, List.setIfInBounds_toArray, List.set_cons_zero, List.set_cons_succ, i64_w, i32_w]
      rfl
     refine pure_ (i := 14) (N := some 25) (v := undef) (a' := ?_) #[true, true, true, true, true, true, true, true, true, true, true, true, true, true, true, false, false, false, false, false] rfl rfl (any_of HT_.out (by kernel_rfl)) (fun _ _ _ h => h) (Or.inr ⟨by rfl, rfl⟩) ?_ ?_
     rotate_left
     ·simp only [Act.put, List.setIfInBounds_toArray, List.set_cons_zero, List.set_cons_succ, i64_w, i32_w]
      rfl
     refine pure_ (i := 15) (N := some 26) (v := undef) (a' := ?_) #[true, true, true, true, true, true, true, true, true, true, true, true, true, true, true, true, false, false, false, false] rfl rfl (any_of HT_.out (by kernel_rfl)) (fun _ _ _ h => h) (Or.inr ⟨by rfl, rfl⟩) ?_ ?_
     rotate_left
     ·simp only [Act.put, List.setIfInBounds_toArray, List.set_cons_zero, List.set_cons_succ, i64_w, i32_w]
      rfl
     refine pure_ (i := 16) (N := some 27) (v := undef) (a' := ?_) #[true, true, true, true, true, true, true, true, true, true, true, true, true, true, true, true, true, false, false, false] rfl rfl (any_of HT_.out (by kernel_rfl)) (fun _ _ _ h => h) (Or.inr ⟨by rfl, rfl⟩) ?_ ?_
     rotate_left
     ·simp only [Act.put, List.setIfInBounds_toArray, List.set_cons_zero, List.set_cons_succ, i64_w, i32_w]
      rfl
     refine pure_ (i := 17) (N := some 28) (v := undef) (a' := ?_) #[true, true, true, true, true, true, true, true, true, true, true, true, true, true, true, true, true, true, false, false] rfl rfl (any_of HT_.out (by kernel_rfl)) (fun _ _ _ h => h) (Or.inr ⟨by rfl, rfl⟩) ?_ ?_
     rotate_left
     ·simp only [Act.put, List.setIfInBounds_toArray, List.set_cons_zero, List.set_cons_succ, i64_w, i32_w]
      rfl
     refine pure_ (i := 18) (N := some 29) (v := ?_) (a' := ?_) #[true, true, true, true, true, true, true, true, true, true, true, true, true, true, true, true, true, true, true, false] rfl rfl (any_of HT_.out (by kernel_rfl)) (fun _ _ _ h => h) (Or.inl ⟨by rfl, ?_⟩) ?_ ?_
     rotate_left
     ·intro w'
      go_simp
      with_reducible rfl
     rotate_left
     ·simp only [Act.put, List.setIfInBounds_toArray, List.set_cons_zero, List.set_cons_succ, i64_w, i32_w]
      rfl
     refine pure_ (i := 19) (N := some 4) (v := ?_) (a' := ?_) #[true, true, true, true, true, true, true, true, true, true, true, true, true, true, true, true, true, true, true, true] rfl rfl (any_of HT_.out (by kernel_rfl)) (fun _ _ _ h => h) (Or.inl ⟨by rfl, ?_⟩) ?_ ?_
     rotate_left
     ·intro w'
      go_simp
      with_reducible rfl
     rotate_left
     ·simp only [Act.put, List.setIfInBounds_toArray, List.set_cons_zero, List.set_cons_succ, i64_w, i32_w]
      rfl
     refine done_ (done_of HT_.out (by kernel_rfl)) ?_
     try go_wp2
     go_ret
     exact ⟨by first | rfl | (simp [errW_none, errW_some] <;> rfl) | (simp [*, errW_none, errW_some] <;> rfl), bl_⟩
    ·replace c8 := Bool.eq_false_iff.mpr c8
     subst c8
     have H1 : ((grid_On.f a0_0 a0_1 l0_2 a0_3 a0_4 a0_5 a1 1).bind fun t163 => (if 0 ≤ t163 then (if t163 < (l0_2.length : Int) then (some (!((rd_T35 l0_2 t163).f0))) else (none)) else (none))) = some r := by rw [if_neg (show ¬ (false = true) by decide)] at H; exact H
     clear H
     have H := H1
     clear H1
     replace H := Option.bind_eq_some_iff.mp H
     obtain ⟨t163, A160, H⟩ := H
     replace H : (if 0 ≤ t163 then (if t163 < (l0_2.length : Int) then (some (!((rd_T35 l0_2 t163).f0))) else (none)) else (none)) = some r := H
     have A16 := Aside0.mk A160
     clear A160
     by_cases c17 : 0 ≤ t163
     ·rw [if_pos c17] at H
      have c17b0 : decide (0 ≤ t163) = true := decide_eq_true c17
      clear c17
      by_cases c18 : t163 < (l0_2.length : Int)
      ·rw [if_pos c18] at H
       have c18b0 : decide (t163 < (l0_2.length : Int)) = true := decide_eq_true c18
       clear c18
       obtain rfl := Option.some.inj H
       go_enter Tryd.func99, Tryd.ntmps99
       try go_wp2_with (first | ((with_reducible refine gate_dst (N := 2) rfl ?_); refine box_event ?hg (N := 2) ?hd (cs := #[.int .i64 a0_0, .int .i64 a0_1, .slice A0_2 l0_2.length c0_2, .int .i64 a0_3, .bool a0_4, .bool a0_5]) (t := 24) ?hr ?_; (case hd => rfl); (case hg => rfl); (case hr => first | (go_simp; done) | (go_simp; rfl)); intro gb160 hg w19 hbox hb; have n0_ := Aside0.mk (below_step bl_ hb); have n1_ := Aside0.mk (hbox); have n2_ := Aside0.mk ((le_new hg (below_size bl_) : w.heap.size ≤ gb160)); have n3_ := Aside0.mk ((le_new hg (below_size bl_) : w.heap.size ≤ gb160)); clear HB; have HB := n0_; have BK160 := n1_; have GW160 := n2_; have GE160 := n3_; clear n0_ n1_ n2_ n3_; clear hb hbox hg; obtain ⟨hcz20_0, hcz20_1, hcz20_2, hcz20_3, hcz20_4, hcz20_5, hfz20_0, hfz20_1, hfz20_2, hfz20_3, hfz20_4, hfz20_5⟩ := cells6 (show w19.heap[gb160]? = some (.cells #[.int .i64 a0_0, .int .i64 a0_1, .slice A0_2 l0_2.length c0_2, .int .i64 a0_3, .bool a0_4, .bool a0_5] _ (0, 0)) from BK160.out); have p161 : 0 ≤ (a1 : Int) := of_decide_eq_true (by first | (with_reducible assumption) | assumption); have q161 : a1 < (l0_2.length : Int) := of_decide_eq_true (by first | (with_reducible assumption) | assumption); obtain ⟨ad161, e161, hx161_0, hx161_1, hx161_2, hx161_3, hx161_4, hx161_5⟩ := at_T35 HR0_2.out a1 p161 q161; (try rw [← Nbq5.out] at hx161_0); (try rw [← Nbq7.out] at hx161_0); (try rw [← Nbq5.out] at hx161_1); (try rw [← Nbq7.out] at hx161_1); (try rw [← Nbq5.out] at hx161_2); (try rw [← Nbq7.out] at hx161_2); (try rw [← Nbq5.out] at hx161_4); (try rw [← Nbq7.out] at hx161_4); cases e161; replace hx161_0 := (HB.out.cell (World.block_lt_of_cell? w _ hx161_0)).trans hx161_0; replace hx161_1 := (HB.out.cell (World.block_lt_of_cell? w _ hx161_1)).trans hx161_1; replace hx161_2 := (HB.out.cell (World.block_lt_of_cell? w _ hx161_2)).trans hx161_2; replace hx161_3 := (HB.out.cell (World.block_lt_of_cell? w _ hx161_3)).trans hx161_3; replace hx161_4 := (HB.out.cell (World.block_lt_of_cell? w _ hx161_4)).trans hx161_4; replace hx161_5 := (HB.out.cell (World.block_lt_of_cell? w _ hx161_5)).trans hx161_5; replace p161 := eq_true p161; replace q161 := eq_true q161) | ((with_reducible refine gate_dst (N := 5) rfl ?_); refine box_event ?hg (N := 5) ?hd (cs := #[.bool false, .bool false, .bool false, .int .i64 0, .bool false, .int .u8 0]) (t := 35) ?hr ?_; (case hd => rfl); (case hg => rfl); (case hr => first | (go_simp; done) | (go_simp; rfl)); intro gb162 hg w21 hbox hb; have n0_ := Aside0.mk (blk_below (g := gb160) (o := .cells #[.int .i64 a0_0, .int .i64 a0_1, .slice (some ad161) l0_2.length c0_2, .int .i64 a0_3, .bool a0_4, .bool a0_5] 24 (0, 0)) (by (with_reducible repeat apply pK); exact BK160.out) hb); have n1_ := Aside0.mk (below_step bl_ hb); have n2_ := Aside0.mk (hbox); have n3_ := Aside0.mk ((le_new hg (below_size bl_) : w.heap.size ≤ gb162)); have n4_ := Aside0.mk ((le_new hg (below_size bl_) : w.heap.size ≤ gb162)); have n5_ := Aside0.mk ((by rw [hg]; exact Nat.ne_of_lt (blk_lt (g := gb160) (o := .cells #[.int .i64 a0_0, .int .i64 a0_1, .slice (some ad161) l0_2.length c0_2, .int .i64 a0_3, .bool a0_4, .bool a0_5] 24 (0, 0)) (by (with_reducible repeat apply pK); exact BK160.out)) : gb160 ≠ gb162)); have n6_ := Aside0.mk ((by rw [hg]; exact Nat.ne_of_gt (blk_lt (g := gb160) (o := .cells #[.int .i64 a0_0, .int .i64 a0_1, .slice (some ad161) l0_2.length c0_2, .int .i64 a0_3, .bool a0_4, .bool a0_5] 24 (0, 0)) (by (with_reducible repeat apply pK); exact BK160.out)) : gb162 ≠ gb160)); clear BK160; clear HB; have BK160 := n0_; have HB := n1_; have BK162 := n2_; have GW162 := n3_; have GE162 := n4_; have NB160_162 := n5_; have NB162_160 := n6_; clear n0_ n1_ n2_ n3_ n4_ n5_ n6_; clear hb hbox hg; have hnb22 := NB162_160.out; have hnc22 := NB160_162.out; obtain ⟨hcz23_0, hcz23_1, hcz23_2, hcz23_3, hcz23_4, hcz23_5, hfz23_0, hfz23_1, hfz23_2, hfz23_3, hfz23_4, hfz23_5⟩ := cells6 (show w21.heap[gb162]? = some (.cells #[.bool false, .bool false, .bool false, .int .i64 0, .bool false, .int .u8 0] _ (0, 0)) from BK162.out)))
       have n0_ : Aside0 (((((((w21.setCell ⟨gb162, 0, none⟩ (.bool true)).setCell ⟨gb162, 1, none⟩ (.bool false)).setCell ⟨gb162, 2, none⟩ (.bool ((rd_T35 l0_2 a1).f1.f1))).setCell ⟨gb162, 3, none⟩ (.int .i64 ((rd_T35 l0_2 a1).f1.f2))).setCell ⟨gb162, 4, none⟩ (.bool ((rd_T35 l0_2 a1).f1.f3))).setCell ⟨gb162, 5, none⟩ (.int .u8 ((rd_T35 l0_2 a1).f2))).heap[gb160]? = some (.cells #[.int .i64 a0_0, .int .i64 a0_1, .slice (some ad161) l0_2.length c0_2, .int .i64 a0_3, .bool a0_4, .bool a0_5] 24 (0, 0))) := ⟨by (with_reducible repeat apply pK); refine blk_far ?_ NB160_162.out _; (with_reducible repeat apply pK); refine blk_far ?_ NB160_162.out _; (with_reducible repeat apply pK); refine blk_far ?_ NB160_162.out _; (with_reducible repeat apply pK); refine blk_far ?_ NB160_162.out _; (with_reducible repeat apply pK); refine blk_far ?_ NB160_162.out _; (with_reducible repeat apply pK); refine blk_far ?_ NB160_162.out _; (with_reducible repeat apply pK); exact BK160.out⟩
       have n1_ : Aside0 (((((((w21.setCell ⟨gb162, 0, none⟩ (.bool true)).setCell ⟨gb162, 1, none⟩ (.bool false)).setCell ⟨gb162, 2, none⟩ (.bool ((rd_T35 l0_2 a1).f1.f1))).setCell ⟨gb162, 3, none⟩ (.int .i64 ((rd_T35 l0_2 a1).f1.f2))).setCell ⟨gb162, 4, none⟩ (.bool ((rd_T35 l0_2 a1).f1.f3))).setCell ⟨gb162, 5, none⟩ (.int .u8 ((rd_T35 l0_2 a1).f2))).heap[gb162]? = some (.cells #[.bool true, .bool false, .bool ((rd_T35 l0_2 a1).f1.f1), .int .i64 ((rd_T35 l0_2 a1).f1.f2), .bool ((rd_T35 l0_2 a1).f1.f3), .int .u8 ((rd_T35 l0_2 a1).f2)] 35 (0, 0))) := ⟨by (with_reducible repeat apply pK); refine blk_put (cs := #[.bool true, .bool false, .bool ((rd_T35 l0_2 a1).f1.f1), .int .i64 ((rd_T35 l0_2 a1).f1.f2), .bool ((rd_T35 l0_2 a1).f1.f3), .int .u8 0]) ?_ 5 _ (by first | rfl | (simp only [← Nbq5.out, ← Nbq7.out]; rfl) | (simp [← Nbq5.out, ← Nbq7.out]; done)); (with_reducible repeat apply pK); refine blk_put (cs := #[.bool true, .bool false, .bool ((rd_T35 l0_2 a1).f1.f1), .int .i64 ((rd_T35 l0_2 a1).f1.f2), .bool false, .int .u8 0]) ?_ 4 _ (by first | rfl | (simp only [← Nbq5.out, ← Nbq7.out]; rfl) | (simp [← Nbq5.out, ← Nbq7.out]; done)); (with_reducible repeat apply pK); refine blk_put (cs := #[.bool true, .bool false, .bool ((rd_T35 l0_2 a1).f1.f1), .int .i64 0, .bool false, .int .u8 0]) ?_ 3 _ (by first | rfl | (simp only [← Nbq5.out, ← Nbq7.out]; rfl) | (simp [← Nbq5.out, ← Nbq7.out]; done)); (with_reducible repeat apply pK); refine blk_put (cs := #[.bool true, .bool false, .bool false, .int .i64 0, .bool false, .int .u8 0]) ?_ 2 _ (by first | rfl | (simp only [← Nbq5.out, ← Nbq7.out]; rfl) | (simp [← Nbq5.out, ← Nbq7.out]; done)); (with_reducible repeat apply pK); refine blk_put (cs := #[.bool true, .bool false, .bool false, .int .i64 0, .bool false, .int .u8 0]) ?_ 1 _ (by first | rfl | (simp only [← Nbq5.out, ← Nbq7.out]; rfl) | (simp [← Nbq5.out, ← Nbq7.out]; done)); (with_reducible repeat apply pK); refine blk_put (cs := #[.bool false, .bool false, .bool false, .int .i64 0, .bool false, .int .u8 0]) ?_ 0 _ (by first | rfl | (simp only [← Nbq5.out, ← Nbq7.out]; rfl) | (simp [← Nbq5.out, ← Nbq7.out]; done)); (with_reducible repeat apply pK); exact BK162.out⟩
       have n2_ : Aside0 (Below w.heap.size w ((((((w21.setCell ⟨gb162, 0, none⟩ (.bool true)).setCell ⟨gb162, 1, none⟩ (.bool false)).setCell ⟨gb162, 2, none⟩ (.bool ((rd_T35 l0_2 a1).f1.f1))).setCell ⟨gb162, 3, none⟩ (.int .i64 ((rd_T35 l0_2 a1).f1.f2))).setCell ⟨gb162, 4, none⟩ (.bool ((rd_T35 l0_2 a1).f1.f3))).setCell ⟨gb162, 5, none⟩ (.int .u8 ((rd_T35 l0_2 a1).f2)))) := ⟨bl_⟩
       (try clear BK160)
       (try clear BK162)
       (try clear HB)
       generalize ((((((w21.setCell ⟨gb162, 0, none⟩ (.bool true)).setCell ⟨gb162, 1, none⟩ (.bool false)).setCell ⟨gb162, 2, none⟩ (.bool ((rd_T35 l0_2 a1).f1.f1))).setCell ⟨gb162, 3, none⟩ (.int .i64 ((rd_T35 l0_2 a1).f1.f2))).setCell ⟨gb162, 4, none⟩ (.bool ((rd_T35 l0_2 a1).f1.f3))).setCell ⟨gb162, 5, none⟩ (.int .u8 ((rd_T35 l0_2 a1).f2))) = w24 at n0_ n1_ n2_ ⊢
       have BK160 := n0_
       have BK162 := n1_
       have HB := n2_
       clear n0_ n1_ n2_
       have n0_ := Aside0.mk (blk_drew BK160.out)
       have n1_ := Aside0.mk (blk_drew BK162.out)
       have n2_ := Aside0.mk (below_drew1 HB.out)
       clear BK160
       clear BK162
       clear HB
       have BK160 := n0_
       have BK162 := n1_
       have HB := n2_
       clear n0_ n1_ n2_
       have p164 : 0 ≤ (t163 : Int) := of_decide_eq_true (by first | (with_reducible assumption) | assumption)
       have q164 : t163 < (l0_2.length : Int) := of_decide_eq_true (by first | (with_reducible assumption) | assumption)
       obtain ⟨ad164, e164, hx164_0, hx164_1, hx164_2, hx164_3, hx164_4, hx164_5⟩ := at_T35 HR0_2.out t163 p164 q164
       have hw164_5 := hx164_5
       (try rw [← Nbq5.out] at hw164_5)
       (try rw [← Nbq7.out] at hw164_5)
       have hw164_4 := hx164_4
       (try rw [← Nbq5.out] at hw164_4)
       (try rw [← Nbq7.out] at hw164_4)
       have hw164_3 := hx164_3
       (try rw [← Nbq5.out] at hw164_3)
       (try rw [← Nbq7.out] at hw164_3)
       have hw164_2 := hx164_2
       (try rw [← Nbq5.out] at hw164_2)
       (try rw [← Nbq7.out] at hw164_2)
       have hw164_1 := hx164_1
       (try rw [← Nbq5.out] at hw164_1)
       (try rw [← Nbq7.out] at hw164_1)
       have hw164_0 := hx164_0
       (try rw [← Nbq5.out] at hw164_0)
       (try rw [← Nbq7.out] at hw164_0)
       (try rw [← Nbq5.out] at hx164_0)
       (try rw [← Nbq7.out] at hx164_0)
       (try rw [← Nbq5.out] at hx164_1)
       (try rw [← Nbq7.out] at hx164_1)
       (try rw [← Nbq5.out] at hx164_2)
       (try rw [← Nbq7.out] at hx164_2)
       (try rw [← Nbq5.out] at hx164_4)
       (try rw [← Nbq7.out] at hx164_4)
       obtain rfl : ad161 = ad164 := (by injection e164)
       replace hx164_0 := (HB.out.cell (World.block_lt_of_cell? w _ hx164_0)).trans hx164_0
       replace hx164_1 := (HB.out.cell (World.block_lt_of_cell? w _ hx164_1)).trans hx164_1
       replace hx164_2 := (HB.out.cell (World.block_lt_of_cell? w _ hx164_2)).trans hx164_2
       replace hx164_3 := (HB.out.cell (World.block_lt_of_cell? w _ hx164_3)).trans hx164_3
       replace hx164_4 := (HB.out.cell (World.block_lt_of_cell? w _ hx164_4)).trans hx164_4
       replace hx164_5 := (HB.out.cell (World.block_lt_of_cell? w _ hx164_5)).trans hx164_5
       replace p164 := eq_true p164
       replace q164 := eq_true q164
       refine start_ (n := 20) (S := fun w' => w'.cell? ⟨gb162, 0, none⟩ = some (.bool true) ∧ w'.cell? ⟨gb162, 1, none⟩ = some (.bool false) ∧ w'.cell? ⟨gb162, 2, none⟩ = some (.bool ((rd_T35 l0_2 a1).f1.f1)) ∧ w'.cell? ⟨gb162, 3, none⟩ = some (.int .i64 ((rd_T35 l0_2 a1).f1.f2)) ∧ w'.cell? ⟨gb162, 4, none⟩ = some (.bool ((rd_T35 l0_2 a1).f1.f3)) ∧ w'.cell? ⟨gb162, 5, none⟩ = some (.int .u8 ((rd_T35 l0_2 a1).f2)) ∧ w'.cell? ⟨gb160, 0, none⟩ = some (.int .i64 a0_0) ∧ w'.cell? ⟨gb160, 1, none⟩ = some (.int .i64 a0_1) ∧ w'.cell? ⟨gb160, 2, none⟩ = some (.slice (some ad161) l0_2.length c0_2) ∧ w'.cell? ⟨gb160, 3, none⟩ = some (.int .i64 a0_3) ∧ w'.cell? ⟨gb160, 4, none⟩ = some (.bool a0_4) ∧ w'.cell? ⟨gb160, 5, none⟩ = some (.bool a0_5) ∧ w'.cell? (ad161.add ((t163).toNat * 6)) = some (.bool ((rd_T35 l0_2 t163).f0)) ∧ w'.cell? ⟨(ad161.add ((t163).toNat * 6)).block, (ad161.add ((t163).toNat * 6)).off + 1, none⟩ = some (.bool ((rd_T35 l0_2 t163).f1.f0)) ∧ w'.cell? ⟨(ad161.add ((t163).toNat * 6)).block, (ad161.add ((t163).toNat * 6)).off + 2, none⟩ = some (.bool ((rd_T35 l0_2 t163).f1.f1)) ∧ w'.cell? ⟨(ad161.add ((t163).toNat * 6)).block, (ad161.add ((t163).toNat * 6)).off + 3, none⟩ = some (.int .i64 ((rd_T35 l0_2 t163).f1.f2)) ∧ w'.cell? ⟨(ad161.add ((t163).toNat * 6)).block, (ad161.add ((t163).toNat * 6)).off + 4, none⟩ = some (.bool ((rd_T35 l0_2 t163).f1.f3)) ∧ w'.cell? ⟨(ad161.add ((t163).toNat * 6)).block, (ad161.add ((t163).toNat * 6)).off + 5, none⟩ = some (.int .u8 ((rd_T35 l0_2 t163).f2))) (ds := []) #[false, false, false, false, false, false, false, false, false, false, false, false, false, false, false, false, false, false, false, false] (by kernel_rfl) rfl rfl ⟨(blk_cell BK162.out 0).trans rfl, (blk_cell BK162.out 1).trans rfl, (blk_cell BK162.out 2).trans rfl, (blk_cell BK162.out 3).trans rfl, (blk_cell BK162.out 4).trans rfl, (blk_cell BK162.out 5).trans rfl, (blk_cell BK160.out 0).trans rfl, (blk_cell BK160.out 1).trans rfl, (blk_cell BK160.out 2).trans rfl, (blk_cell BK160.out 3).trans rfl, (blk_cell BK160.out 4).trans rfl, (blk_cell BK160.out 5).trans rfl, ((HB.out.cell (World.block_lt_of_cell? w _ hw164_0)).trans hw164_0), ((HB.out.cell (World.block_lt_of_cell? w _ hw164_1)).trans hw164_1), ((HB.out.cell (World.block_lt_of_cell? w _ hw164_2)).trans hw164_2), ((HB.out.cell (World.block_lt_of_cell? w _ hw164_3)).trans hw164_3), ((HB.out.cell (World.block_lt_of_cell? w _ hw164_4)).trans hw164_4), ((HB.out.cell (World.block_lt_of_cell? w _ hw164_5)).trans hw164_5)⟩ (fun hHeld => ?_); refine with_tabW field_enters.tab2 field_enters.bits2 (fun HT_ HW_ => ?_)
       generalize w24.drew = w25 at BK160 BK162 HB hx164_0 hx164_1 hx164_2 hx164_3 hx164_4 hx164_5 hHeld ⊢
       refine pure_ (i := 0) (N := some 11) (v := ?_) (a' := ?_) #[true, false, false, false, false, false, false, false, false, false, false, false, false, false, false, false, false, false, false, false] rfl rfl (any_of HT_.out (by kernel_rfl)) (fun _ _ _ h => h) (Or.inl ⟨by rfl, ?_⟩) ?_ ?_
       rotate_left
       ·intro w'
        go_simp
        with_reducible rfl
       rotate_left
       ·simp only [Act.put, List.setIfInBounds_toArray, List.set_cons_zero, List.set_cons_succ, i64_w, i32_w]
        rfl
       refine take_ (i := 1) (N := some 12) (v := ?_) (a' := ?_) #[true, true, false, false, false, false, false, false, false, false, false, false, false, false, false, false, false, false, false, false] rfl rfl (take_ofW HT_.out HW_.out (by kernel_rfl)) (fun _ _ _ h => h) (Or.inl ⟨by rfl, ?_⟩) hHeld ?_ ?_
       rotate_left
       ·rintro w' ⟨s0, s1, s2, s3, s4, s5, s6, s7, s8, s9, s10, s11, s12, s13, s14, s15, s16, s17⟩
        go_simp
        with_reducible rfl
       rotate_left
       ·simp only [Act.put, List.setIfInBounds_toArray, List.set_cons_zero, List.set_cons_succ, i64_w, i32_w]
        rfl
       refine pure_ (i := 2) (N := some 13) (v := ?_) (a' := ?_) #[true, true, true, false, false, false, false, false, false, false, false, false, false, false, false, false, false, false, false, false] rfl rfl (any_of HT_.out (by kernel_rfl)) (fun _ _ _ h => h) (Or.inl ⟨by rfl, ?_⟩) ?_ ?_
       rotate_left
       ·intro w'
        go_simp
        with_reducible rfl
       rotate_left
       ·simp only [Act.put, List.setIfInBounds_toArray, List.set_cons_zero, List.set_cons_succ, i64_w, i32_w]
        rfl
       refine pure_ (i := 3) (N := some 14) (v := ?_) (a' := ?_) #[true, true, true, true, false, false, false, false, false, false, false, false, false, false, false, false, false, false, false, false] rfl rfl (any_of HT_.out (by kernel_rfl)) (fun _ _ _ h => h) (Or.inl ⟨by rfl, ?_⟩) ?_ ?_
       rotate_left
       ·intro w'
        go_simp
        with_reducible rfl
       rotate_left
       ·simp only [Act.put, List.setIfInBounds_toArray, List.set_cons_zero, List.set_cons_succ, i64_w, i32_w]
        rfl
       refine pure_ (i := 4) (N := some 15) (v := ?_) (a' := ?_) #[true, true, true, true, true, false, false, false, false, false, false, false, false, false, false, false, false, false, false, false] rfl rfl (any_of HT_.out (by kernel_rfl)) (fun _ _ _ h => h) (Or.inl ⟨by rfl, ?_⟩) ?_ ?_
       rotate_left
       ·intro w'
        go_simp
        with_reducible rfl
       rotate_left
       ·simp only [Act.put, List.setIfInBounds_toArray, List.set_cons_zero, List.set_cons_succ, i64_w, i32_w]
        rfl
       refine take_ (i := 5) (N := some 16) (v := ?_) (a' := ?_) #[true, true, true, true, true, true, false, false, false, false, false, false, false, false, false, false, false, false, false, false] rfl rfl (take_ofW HT_.out HW_.out (by kernel_rfl)) (fun _ _ _ h => h) (Or.inl ⟨by rfl, ?_⟩) hHeld ?_ ?_
       rotate_left
       ·rintro w' ⟨s0, s1, s2, s3, s4, s5, s6, s7, s8, s9, s10, s11, s12, s13, s14, s15, s16, s17⟩
        go_simp
        with_reducible rfl
       rotate_left
       ·simp only [Act.put, List.setIfInBounds_toArray, List.set_cons_zero, List.set_cons_succ, i64_w, i32_w]
        rfl
       refine pure_ (i := 6) (N := some 17) (v := ?_) (a' := ?_) #[true, true, true, true, true, true, true, false, false, false, false, false, false, false, false, false, false, false, false, false] rfl rfl (any_of HT_.out (by kernel_rfl)) (fun _ _ _ h => h) (Or.inl ⟨by rfl, ?_⟩) ?_ ?_
       rotate_left
       ·intro w'
        go_simp
        with_reducible rfl
       rotate_left
       ·simp only [Act.put, List.setIfInBounds_toArray, List.set_cons_zero, List.set_cons_succ, i64_w, i32_w]
        rfl
       refine pure_ (i := 7) (N := some 18) (v := ?_) (a' := ?_) #[true, true, true, true, true, true, true, true, false, false, false, false, false, false, false, false, false, false, false, false] rfl rfl (any_of HT_.out (by kernel_rfl)) (fun _ _ _ h => h) (Or.inl ⟨by rfl, ?_⟩) ?_ ?_
       rotate_left
       ·intro w'
        go_simp
        with_reducible rfl
       rotate_left
       ·simp only [Act.put, List.setIfInBounds_toArray, List.set_cons_zero, List.set_cons_succ, i64_w, i32_w]
        rfl
       refine pure_ (i := 8) (N := some 19) (v := ?_) (a' := ?_) #[true, true, true, true, true, true, true, true, true, false, false, false, false, false, false, false, false, false, false, false] rfl rfl (any_of HT_.out (by kernel_rfl)) (fun _ _ _ h => h) (Or.inl ⟨by rfl, ?_⟩) ?_ ?_
       rotate_left
       ·intro w'
        go_simp
        with_reducible rfl
       rotate_left
       ·simp only [Act.put, List.setIfInBounds_toArray, List.set_cons_zero, List.set_cons_succ, i64_w, i32_w]
        rfl
       refine pure_ (i := 9) (N := some 20) (v := ?_) (a' := ?_) #[true, true, true, true, true, true, true, true, true, true, false, false, false, false, false, false, false, false, false, false] rfl rfl (any_of HT_.out (by kernel_rfl)) (fun _ _ _ h => h) (Or.inl ⟨by rfl, ?_⟩) ?_ ?_
       rotate_left
       ·intro w'
        go_simp
        with_reducible rfl
       rotate_left
       ·simp only [Act.put, List.setIfInBounds_toArray, List.set_cons_zero, List.set_cons_succ, i64_w, i32_w]
        rfl
       refine pure_ (i := 12) (N := some 23) (v := ?_) (a' := ?_) #[true, true, true, true, true, true, true, true, true, true, false, false, true, false, false, false, false, false, false, false] rfl rfl (any_of HT_.out (by kernel_rfl)) (fun _ _ _ h => h) (Or.inl ⟨by rfl, ?_⟩) ?_ ?_
       rotate_left
       ·intro w'
        go_simp
        with_reducible rfl
       rotate_left
       ·simp only [Act.put, List.setIfInBounds_toArray, List.set_cons_zero, List.set_cons_succ, i64_w, i32_w]
        rfl
       refine take_ (i := 10) (N := some 21) (v := ?_) (a' := ?_) #[true, true, true, true, true, true, true, true, true, true, true, false, true, false, false, false, false, false, false, false] rfl rfl (take_ofW HT_.out HW_.out (by kernel_rfl)) (fun _ _ _ h => h) (Or.inl ⟨by rfl, ?_⟩) hHeld ?_ ?_
       rotate_left
       ·rintro w' ⟨s0, s1, s2, s3, s4, s5, s6, s7, s8, s9, s10, s11, s12, s13, s14, s15, s16, s17⟩
        go_simp
        with_reducible rfl
       rotate_left
       ·simp only [Act.put, List.setIfInBounds_toArray, List.set_cons_zero, List.set_cons_succ, i64_w, i32_w]
        rfl
       refine take_ (i := 11) (N := some 22) (v := ?_) (a' := ?_) #[true, true, true, true, true, true, true, true, true, true, true, true, true, false, false, false, false, false, false, false] rfl rfl (take_ofW HT_.out HW_.out (by kernel_rfl)) (fun _ _ _ h => h) (Or.inl ⟨by rfl, ?_⟩) hHeld ?_ ?_
       rotate_left
       ·rintro w' ⟨s0, s1, s2, s3, s4, s5, s6, s7, s8, s9, s10, s11, s12, s13, s14, s15, s16, s17⟩
        go_simp
        with_reducible rfl
       rotate_left
       ·simp only [Act.put, List.setIfInBounds_toArray, List.set_cons_zero, List.set_cons_succ, i64_w, i32_w]
        rfl
       refine one_ (i := 13) (N := some 24) #[true, true, true, true, true, true, true, true, true, true, true, true, true, true, false, false, false, false, false, false] rfl rfl (one_of HT_.out (by kernel_rfl)) (by decide) (fun K hK => ?_)
       refine goes_ Tryd.func80 (by kernel_rfl) rfl #[.agg #[.int .i64 a0_0, .int .i64 a0_1, .slice (some ad161) l0_2.length c0_2, .int .i64 a0_3, .bool a0_4, .bool a0_5], .int .i64 a1, .int .i64 1] (by rfl) rfl rfl ag_ ?_
       with_reducible refine (grid_On.calls a0_0 a0_1 _ _ l0_2 a0_3 a0_4 a0_5 a1 1 t163 _ ?side1 ?side2 A16.out).mono ?_
       (case side1 => repeat (first | exact (Kd.C_below HR0_2.out HB.out) | (with_reducible apply pC)))
       (case side2 => exact HC0_2.out)
       rintro e w26 ⟨rfl, hb⟩
       refine ⟨_, rfl, ?_⟩
       have n0_ := Aside0.mk (blk_below (g := gb160) (o := .cells #[.int .i64 a0_0, .int .i64 a0_1, .slice (some ad161) l0_2.length c0_2, .int .i64 a0_3, .bool a0_4, .bool a0_5] 24 (0, 0)) (by (with_reducible repeat apply pK); exact BK160.out) hb)
       have n1_ := Aside0.mk (blk_below (g := gb162) (o := .cells #[.bool true, .bool false, .bool ((rd_T35 l0_2 a1).f1.f1), .int .i64 ((rd_T35 l0_2 a1).f1.f2), .bool ((rd_T35 l0_2 a1).f1.f3), .int .u8 ((rd_T35 l0_2 a1).f2)] 35 (0, 0)) (by (with_reducible repeat apply pK); exact BK162.out) hb)
       have n2_ := Aside0.mk (below_step bl_ hb)
       clear BK160
       clear BK162
       clear HB
       have BK160 := n0_
       have BK162 := n1_
       have HB := n2_
       clear n0_ n1_ n2_
       (try clear hb)
       (try clear hb2)
       (try clear hk)
       (try clear hi)
       refine hK.out _ _ ⟨(blk_cell BK162.out 0).trans rfl, (blk_cell BK162.out 1).trans rfl, (blk_cell BK162.out 2).trans rfl, (blk_cell BK162.out 3).trans rfl, (blk_cell BK162.out 4).trans rfl, (blk_cell BK162.out 5).trans rfl, (blk_cell BK160.out 0).trans rfl, (blk_cell BK160.out 1).trans rfl, (blk_cell BK160.out 2).trans rfl, (blk_cell BK160.out 3).trans rfl, (blk_cell BK160.out 4).trans rfl, (blk_cell BK160.out 5).trans rfl, ((HB.out.cell (World.block_lt_of_cell? w _ hw164_0)).trans hw164_0), ((HB.out.cell (World.block_lt_of_cell? w _ hw164_1)).trans hw164_1), ((HB.out.cell (World.block_lt_of_cell? w _ hw164_2)).trans hw164_2), ((HB.out.cell (World.block_lt_of_cell? w _ hw164_3)).trans hw164_3), ((HB.out.cell (World.block_lt_of_cell? w _ hw164_4)).trans hw164_4), ((HB.out.cell (World.block_lt_of_cell? w _ hw164_5)).trans hw164_5)⟩ (fun hHeld => ?_)
       clear hK K
       refine norm_ (a' := ?_) ?_ ?_
       rotate_left
       ·show Act.put _ (some 24) _ = _
        simp only [Act.put, List.setIfInBounds_toArray, List.set_cons_zero, List.set_cons_succ, i64_w, i32_w]
        rfl
       refine pure_ (i := 14) (N := some 25) (v := ?_) (a' := ?_) #[true, true, true, true, true, true, true, true, true, true, true, true, true, true, true, false, false, false, false, false] rfl rfl (any_of HT_.out (by kernel_rfl)) (fun _ _ _ h => h) (Or.inl ⟨by rfl, ?_⟩) ?_ ?_
       rotate_left
       ·intro w'
        go_simp
        with_reducible rfl
       rotate_left
       ·simp only [Act.put, List.setIfInBounds_toArray, List.set_cons_zero, List.set_cons_succ, i64_w, i32_w]
        rfl
       refine pure_ (i := 15) (N := some 26) (v := ?_) (a' := ?_) #[true, true, true, true, true, true, true, true, true, true, true, true, true, true, true, true, false, false, false, false] rfl rfl (any_of HT_.out (by kernel_rfl)) (fun _ _ _ h => h) (Or.inl ⟨by rfl, ?_⟩) ?_ ?_
       rotate_left
       ·intro w'
        go_simp
        with_reducible rfl
       rotate_left
       ·simp only [Act.put, List.setIfInBounds_toArray, List.set_cons_zero, List.set_cons_succ, i64_w, i32_w]
        rfl
       refine take_ (i := 16) (N := some 27) (v := ?_) (a' := ?_) #[true, true, true, true, true, true, true, true, true, true, true, true, true, true, true, true, true, false, false, false] rfl rfl (take_ofW HT_.out HW_.out (by kernel_rfl)) (fun _ _ _ h => h) (Or.inl ⟨by rfl, ?_⟩) hHeld ?_ ?_
       rotate_left
       ·rintro w' ⟨s0, s1, s2, s3, s4, s5, s6, s7, s8, s9, s10, s11, s12, s13, s14, s15, s16, s17⟩
        go_simp
        with_reducible rfl
       rotate_left
       ·simp only [Act.put, List.setIfInBounds_toArray, List.set_cons_zero, List.set_cons_succ, i64_w, i32_w]
        rfl
       refine pure_ (i := 17) (N := some 28) (v := ?_) (a' := ?_) #[true, true, true, true, true, true, true, true, true, true, true, true, true, true, true, true, true, true, false, false] rfl rfl (any_of HT_.out (by kernel_rfl)) (fun _ _ _ h => h) (Or.inl ⟨by rfl, ?_⟩) ?_ ?_
       rotate_left
       ·intro w'
        go_simp
        with_reducible rfl
       rotate_left
       ·simp only [Act.put, List.setIfInBounds_toArray, List.set_cons_zero, List.set_cons_succ, i64_w, i32_w]
        rfl
       refine pure_ (i := 18) (N := some 29) (v := ?_) (a' := ?_) #[true, true, true, true, true, true, true, true, true, true, true, true, true, true, true, true, true, true, true, false] rfl rfl (any_of HT_.out (by kernel_rfl)) (fun _ _ _ h => h) (Or.inl ⟨by rfl, ?_⟩) ?_ ?_
       rotate_left
       ·intro w'
        go_simp
        with_reducible rfl
       rotate_left
       ·simp only [Act.put, List.setIfInBounds_toArray, List.set_cons_zero, List.set_cons_succ, i64_w, i32_w]
        rfl
       refine pure_ (i := 19) (N := some 4) (v := ?_) (a' := ?_) #[true, true, true, true, true, true, true, true, true, true, true, true, true, true, true, true, true, true, true, true] rfl rfl (any_of HT_.out (by kernel_rfl)) (fun _ _ _ h => h) (Or.inl ⟨by rfl, ?_⟩) ?_ ?_
       rotate_left
       ·intro w'
        go_simp
        with_reducible rfl
       rotate_left
       ·simp only [Act.put, List.setIfInBounds_toArray, List.set_cons_zero, List.set_cons_succ, i64_w, i32_w]
        rfl
       refine done_ (done_of HT_.out (by kernel_rfl)) ?_
       try go_wp2
       go_ret
       exact ⟨by first | rfl | (simp [errW_none, errW_some] <;> rfl) | (simp [*, errW_none, errW_some] <;> rfl), bl_⟩
      ·rw [if_neg c18] at H
       exact absurd H (by simp)
     ·rw [if_neg c17] at H
      exact absurd H (by simp)
   ·replace c6 := Bool.eq_false_iff.mpr c6
    subst c6
    have H1 : (some false) = some r := by rw [if_neg (show ¬ (false = true) by decide)] at H; exact H
    clear H
    have H := H1
    clear H1
    obtain rfl := Option.some.inj H
    go_enter Tryd.func99, Tryd.ntmps99
    try go_wp2_with (first | ((with_reducible refine gate_dst (N := 2) rfl ?_); refine box_event ?hg (N := 2) ?hd (cs := #[.int .i64 a0_0, .int .i64 a0_1, .slice A0_2 l0_2.length c0_2, .int .i64 a0_3, .bool a0_4, .bool a0_5]) (t := 24) ?hr ?_; (case hd => rfl); (case hg => rfl); (case hr => first | (go_simp; done) | (go_simp; rfl)); intro gb160 hg w27 hbox hb; have n0_ := Aside0.mk (below_step bl_ hb); have n1_ := Aside0.mk (hbox); have n2_ := Aside0.mk ((le_new hg (below_size bl_) : w.heap.size ≤ gb160)); have n3_ := Aside0.mk ((le_new hg (below_size bl_) : w.heap.size ≤ gb160)); clear HB; have HB := n0_; have BK160 := n1_; have GW160 := n2_; have GE160 := n3_; clear n0_ n1_ n2_ n3_; clear hb hbox hg; obtain ⟨hcz28_0, hcz28_1, hcz28_2, hcz28_3, hcz28_4, hcz28_5, hfz28_0, hfz28_1, hfz28_2, hfz28_3, hfz28_4, hfz28_5⟩ := cells6 (show w27.heap[gb160]? = some (.cells #[.int .i64 a0_0, .int .i64 a0_1, .slice A0_2 l0_2.length c0_2, .int .i64 a0_3, .bool a0_4, .bool a0_5] _ (0, 0)) from BK160.out); have p161 : 0 ≤ (a1 : Int) := of_decide_eq_true (by first | (with_reducible assumption) | assumption); have q161 : a1 < (l0_2.length : Int) := of_decide_eq_true (by first | (with_reducible assumption) | assumption); obtain ⟨ad161, e161, hx161_0, hx161_1, hx161_2, hx161_3, hx161_4, hx161_5⟩ := at_T35 HR0_2.out a1 p161 q161; (try rw [← Nbq5.out] at hx161_0); (try rw [← Nbq5.out] at hx161_1); (try rw [← Nbq5.out] at hx161_2); (try rw [← Nbq5.out] at hx161_4); cases e161; replace hx161_0 := (HB.out.cell (World.block_lt_of_cell? w _ hx161_0)).trans hx161_0; replace hx161_1 := (HB.out.cell (World.block_lt_of_cell? w _ hx161_1)).trans hx161_1; replace hx161_2 := (HB.out.cell (World.block_lt_of_cell? w _ hx161_2)).trans hx161_2; replace hx161_3 := (HB.out.cell (World.block_lt_of_cell? w _ hx161_3)).trans hx161_3; replace hx161_4 := (HB.out.cell (World.block_lt_of_cell? w _ hx161_4)).trans hx161_4; replace hx161_5 := (HB.out.cell (World.block_lt_of_cell? w _ hx161_5)).trans hx161_5; replace p161 := eq_true p161; replace q161 := eq_true q161) | ((with_reducible refine gate_dst (N := 5) rfl ?_); refine box_event ?hg (N := 5) ?hd (cs := #[.bool false, .bool false, .bool false, .int .i64 0, .bool false, .int .u8 0]) (t := 35) ?hr ?_; (case hd => rfl); (case hg => rfl); (case hr => first | (go_simp; done) | (go_simp; rfl)); intro gb162 hg w29 hbox hb; have n0_ := Aside0.mk (blk_below (g := gb160) (o := .cells #[.int .i64 a0_0, .int .i64 a0_1, .slice (some ad161) l0_2.length c0_2, .int .i64 a0_3, .bool a0_4, .bool a0_5] 24 (0, 0)) (by (with_reducible repeat apply pK); exact BK160.out) hb); have n1_ := Aside0.mk (below_step bl_ hb); have n2_ := Aside0.mk (hbox); have n3_ := Aside0.mk ((le_new hg (below_size bl_) : w.heap.size ≤ gb162)); have n4_ := Aside0.mk ((le_new hg (below_size bl_) : w.heap.size ≤ gb162)); have n5_ := Aside0.mk ((by rw [hg]; exact Nat.ne_of_lt (blk_lt (g := gb160) (o := .cells #[.int .i64 a0_0, .int .i64 a0_1, .slice (some ad161) l0_2.length c0_2, .int .i64 a0_3, .bool a0_4, .bool a0_5] 24 (0, 0)) (by (with_reducible repeat apply pK); exact BK160.out)) : gb160 ≠ gb162)); have n6_ := Aside0.mk ((by rw [hg]; exact Nat.ne_of_gt (blk_lt (g := gb160) (o := .cells #[.int .i64 a0_0, .int .i64 a0_1, .slice (some ad161) l0_2.length c0_2, .int .i64 a0_3, .bool a0_4, .bool a0_5] 24 (0, 0)) (by (with_reducible repeat apply pK); exact BK160.out)) : gb162 ≠ gb160)); clear BK160; clear HB; have BK160 := n0_; have HB := n1_; have BK162 := n2_; have GW162 := n3_; have GE162 := n4_; have NB160_162 := n5_; have NB162_160 := n6_; clear n0_ n1_ n2_ n3_ n4_ n5_ n6_; clear hb hbox hg; have hnb30 := NB162_160.out; have hnc30 := NB160_162.out; obtain ⟨hcz31_0, hcz31_1, hcz31_2, hcz31_3, hcz31_4, hcz31_5, hfz31_0, hfz31_1, hfz31_2, hfz31_3, hfz31_4, hfz31_5⟩ := cells6 (show w29.heap[gb162]? = some (.cells #[.bool false, .bool false, .bool false, .int .i64 0, .bool false, .int .u8 0] _ (0, 0)) from BK162.out)))
    have n0_ : Aside0 (((((((w29.setCell ⟨gb162, 0, none⟩ (.bool false)).setCell ⟨gb162, 1, none⟩ (.bool ((rd_T35 l0_2 a1).f1.f0))).setCell ⟨gb162, 2, none⟩ (.bool ((rd_T35 l0_2 a1).f1.f1))).setCell ⟨gb162, 3, none⟩ (.int .i64 ((rd_T35 l0_2 a1).f1.f2))).setCell ⟨gb162, 4, none⟩ (.bool ((rd_T35 l0_2 a1).f1.f3))).setCell ⟨gb162, 5, none⟩ (.int .u8 ((rd_T35 l0_2 a1).f2))).heap[gb160]? = some (.cells #[.int .i64 a0_0, .int .i64 a0_1, .slice (some ad161) l0_2.length c0_2, .int .i64 a0_3, .bool a0_4, .bool a0_5] 24 (0, 0))) := ⟨by (with_reducible repeat apply pK); refine blk_far ?_ NB160_162.out _; (with_reducible repeat apply pK); refine blk_far ?_ NB160_162.out _; (with_reducible repeat apply pK); refine blk_far ?_ NB160_162.out _; (with_reducible repeat apply pK); refine blk_far ?_ NB160_162.out _; (with_reducible repeat apply pK); refine blk_far ?_ NB160_162.out _; (with_reducible repeat apply pK); refine blk_far ?_ NB160_162.out _; (with_reducible repeat apply pK); exact BK160.out⟩
    have n1_ : Aside0 (((((((w29.setCell ⟨gb162, 0, none⟩ (.bool false)).setCell ⟨gb162, 1, none⟩ (.bool ((rd_T35 l0_2 a1).f1.f0))).setCell ⟨gb162, 2, none⟩ (.bool ((rd_T35 l0_2 a1).f1.f1))).setCell ⟨gb162, 3, none⟩ (.int .i64 ((rd_T35 l0_2 a1).f1.f2))).setCell ⟨gb162, 4, none⟩ (.bool ((rd_T35 l0_2 a1).f1.f3))).setCell ⟨gb162, 5, none⟩ (.int .u8 ((rd_T35 l0_2 a1).f2))).heap[gb162]? = some (.cells #[.bool false, .bool ((rd_T35 l0_2 a1).f1.f0), .bool ((rd_T35 l0_2 a1).f1.f1), .int .i64 ((rd_T35 l0_2 a1).f1.f2), .bool ((rd_T35 l0_2 a1).f1.f3), .int .u8 ((rd_T35 l0_2 a1).f2)] 35 (0, 0))) := ⟨by (with_reducible repeat apply pK); refine blk_put (cs := #[.bool false, .bool ((rd_T35 l0_2 a1).f1.f0), .bool ((rd_T35 l0_2 a1).f1.f1), .int .i64 ((rd_T35 l0_2 a1).f1.f2), .bool ((rd_T35 l0_2 a1).f1.f3), .int .u8 0]) ?_ 5 _ (by first | rfl | (simp only [← Nbq5.out]; rfl) | (simp [← Nbq5.out]; done)); (with_reducible repeat apply pK); refine blk_put (cs := #[.bool false, .bool ((rd_T35 l0_2 a1).f1.f0), .bool ((rd_T35 l0_2 a1).f1.f1), .int .i64 ((rd_T35 l0_2 a1).f1.f2), .bool false, .int .u8 0]) ?_ 4 _ (by first | rfl | (simp only [← Nbq5.out]; rfl) | (simp [← Nbq5.out]; done)); (with_reducible repeat apply pK); refine blk_put (cs := #[.bool false, .bool ((rd_T35 l0_2 a1).f1.f0), .bool ((rd_T35 l0_2 a1).f1.f1), .int .i64 0, .bool false, .int .u8 0]) ?_ 3 _ (by first | rfl | (simp only [← Nbq5.out]; rfl) | (simp [← Nbq5.out]; done)); (with_reducible repeat apply pK); refine blk_put (cs := #[.bool false, .bool ((rd_T35 l0_2 a1).f1.f0), .bool false, .int .i64 0, .bool false, .int .u8 0]) ?_ 2 _ (by first | rfl | (simp only [← Nbq5.out]; rfl) | (simp [← Nbq5.out]; done)); (with_reducible repeat apply pK); refine blk_put (cs := #[.bool false, .bool false, .bool false, .int .i64 0, .bool false, .int .u8 0]) ?_ 1 _ (by first | rfl | (simp only [← Nbq5.out]; rfl) | (simp [← Nbq5.out]; done)); (with_reducible repeat apply pK); refine blk_put (cs := #[.bool false, .bool false, .bool false, .int .i64 0, .bool false, .int .u8 0]) ?_ 0 _ (by first | rfl | (simp only [← Nbq5.out]; rfl) | (simp [← Nbq5.out]; done)); (with_reducible repeat apply pK); exact BK162.out⟩
    have n2_ : Aside0 (Below w.heap.size w ((((((w29.setCell ⟨gb162, 0, none⟩ (.bool false)).setCell ⟨gb162, 1, none⟩ (.bool ((rd_T35 l0_2 a1).f1.f0))).setCell ⟨gb162, 2, none⟩ (.bool ((rd_T35 l0_2 a1).f1.f1))).setCell ⟨gb162, 3, none⟩ (.int .i64 ((rd_T35 l0_2 a1).f1.f2))).setCell ⟨gb162, 4, none⟩ (.bool ((rd_T35 l0_2 a1).f1.f3))).setCell ⟨gb162, 5, none⟩ (.int .u8 ((rd_T35 l0_2 a1).f2)))) := ⟨bl_⟩
    (try clear BK160)
    (try clear BK162)
    (try clear HB)
    generalize ((((((w29.setCell ⟨gb162, 0, none⟩ (.bool false)).setCell ⟨gb162, 1, none⟩ (.bool ((rd_T35 l0_2 a1).f1.f0))).setCell ⟨gb162, 2, none⟩ (.bool ((rd_T35 l0_2 a1).f1.f1))).setCell ⟨gb162, 3, none⟩ (.int .i64 ((rd_T35 l0_2 a1).f1.f2))).setCell ⟨gb162, 4, none⟩ (.bool ((rd_T35 l0_2 a1).f1.f3))).setCell ⟨gb162, 5, none⟩ (.int .u8 ((rd_T35 l0_2 a1).f2))) = w32 at n0_ n1_ n2_ ⊢
    have BK160 := n0_
    have BK162 := n1_
    have HB := n2_
    clear n0_ n1_ n2_
    have n0_ := Aside0.mk (blk_drew BK160.out)
    have n1_ := Aside0.mk (blk_drew BK162.out)
    have n2_ := Aside0.mk (below_drew1 HB.out)
    clear BK160
    clear BK162
    clear HB
    have BK160 := n0_
    have BK162 := n1_
    have HB := n2_
    clear n0_ n1_ n2_
    refine start_ (n := 20) (S := fun w' => w'.cell? ⟨gb162, 0, none⟩ = some (.bool false) ∧ w'.cell? ⟨gb162, 1, none⟩ = some (.bool ((rd_T35 l0_2 a1).f1.f0)) ∧ w'.cell? ⟨gb162, 2, none⟩ = some (.bool ((rd_T35 l0_2 a1).f1.f1)) ∧ w'.cell? ⟨gb162, 3, none⟩ = some (.int .i64 ((rd_T35 l0_2 a1).f1.f2)) ∧ w'.cell? ⟨gb162, 4, none⟩ = some (.bool ((rd_T35 l0_2 a1).f1.f3)) ∧ w'.cell? ⟨gb162, 5, none⟩ = some (.int .u8 ((rd_T35 l0_2 a1).f2))) (ds := []) #[false, false, false, false, false, false, false, false, false, false, false, false, false, false, false, false, false, false, false, false] (by kernel_rfl) rfl rfl ⟨(blk_cell BK162.out 0).trans rfl, (blk_cell BK162.out 1).trans rfl, (blk_cell BK162.out 2).trans rfl, (blk_cell BK162.out 3).trans rfl, (blk_cell BK162.out 4).trans rfl, (blk_cell BK162.out 5).trans rfl⟩ (fun hHeld => ?_); refine with_tabW field_enters.tab2 field_enters.bits2 (fun HT_ HW_ => ?_)
    generalize w32.drew = w33 at BK160 BK162 HB hHeld ⊢
    refine pure_ (i := 0) (N := some 11) (v := ?_) (a' := ?_) #[true, false, false, false, false, false, false, false, false, false, false, false, false, false, false, false, false, false, false, false] rfl rfl (any_of HT_.out (by kernel_rfl)) (fun _ _ _ h => h) (Or.inl ⟨by rfl, ?_⟩) ?_ ?_
    rotate_left
    ·intro w'
     go_simp
     with_reducible rfl
    rotate_left
    ·simp only [Act.put, List.setIfInBounds_toArray, List.set_cons_zero, List.set_cons_succ, i64_w, i32_w]
     rfl
    refine take_ (i := 1) (N := some 12) (v := ?_) (a' := ?_) #[true, true, false, false, false, false, false, false, false, false, false, false, false, false, false, false, false, false, false, false] rfl rfl (take_ofW HT_.out HW_.out (by kernel_rfl)) (fun _ _ _ h => h) (Or.inl ⟨by rfl, ?_⟩) hHeld ?_ ?_
    rotate_left
    ·rintro w' ⟨s0, s1, s2, s3, s4, s5⟩
     go_simp
     with_reducible rfl
    rotate_left
    ·simp only [Act.put, List.setIfInBounds_toArray, List.set_cons_zero, List.set_cons_succ, i64_w, i32_w]
     rfl
    refine pure_ (i := 2) (N := some 13) (v := ?_) (a' := ?_) #[true, true, true, false, false, false, false, false, false, false, false, false, false, false, false, false, false, false, false, false] rfl rfl (any_of HT_.out (by kernel_rfl)) (fun _ _ _ h => h) (Or.inl ⟨by rfl, ?_⟩) ?_ ?_
    rotate_left
    ·intro w'
     go_simp
     with_reducible rfl
    rotate_left
    ·simp only [Act.put, List.setIfInBounds_toArray, List.set_cons_zero, List.set_cons_succ, i64_w, i32_w]
     rfl
    refine pure_ (i := 3) (N := some 14) (v := undef) (a' := ?_) #[true, true, true, true, false, false, false, false, false, false, false, false, false, false, false, false, false, false, false, false] rfl rfl (any_of HT_.out (by kernel_rfl)) (fun _ _ _ h => h) (Or.inr ⟨by rfl, rfl⟩) ?_ ?_
    rotate_left
    ·simp only [Act.put, List.setIfInBounds_toArray, List.set_cons_zero, List.set_cons_succ, i64_w, i32_w]
     rfl
    refine pure_ (i := 4) (N := some 15) (v := undef) (a' := ?_) #[true, true, true, true, true, false, false, false, false, false, false, false, false, false, false, false, false, false, false, false] rfl rfl (any_of HT_.out (by kernel_rfl)) (fun _ _ _ h => h) (Or.inr ⟨by rfl, rfl⟩) ?_ ?_
    rotate_left
    ·simp only [Act.put, List.setIfInBounds_toArray, List.set_cons_zero, List.set_cons_succ, i64_w, i32_w]
     rfl
    refine pure_ (i := 5) (N := some 16) (v := undef) (a' := ?_) #[true, true, true, true, true, true, false, false, false, false, false, false, false, false, false, false, false, false, false, false] rfl rfl (any_of HT_.out (by kernel_rfl)) (fun _ _ _ h => h) (Or.inr ⟨by rfl, rfl⟩) ?_ ?_
    rotate_left
    ·simp only [Act.put, List.setIfInBounds_toArray, List.set_cons_zero, List.set_cons_succ, i64_w, i32_w]
     rfl
    refine pure_ (i := 6) (N := some 17) (v := undef) (a' := ?_) #[true, true, true, true, true, true, true, false, false, false, false, false, false, false, false, false, false, false, false, false] rfl rfl (any_of HT_.out (by kernel_rfl)) (fun _ _ _ h => h) (Or.inr ⟨by rfl, rfl⟩) ?_ ?_
    rotate_left
    ·simp only [Act.put, List.setIfInBounds_toArray, List.set_cons_zero, List.set_cons_succ, i64_w, i32_w]
     rfl
    refine pure_ (i := 7) (N := some 18) (v := ?_) (a' := ?_) #[true, true, true, true, true, true, true, true, false, false, false, false, false, false, false, false, false, false, false, false] rfl rfl (any_of HT_.out (by kernel_rfl)) (fun _ _ _ h => h) (Or.inl ⟨by rfl, ?_⟩) ?_ ?_
    rotate_left
    ·intro w'
     go_simp
     with_reducible rfl
    rotate_left
    ·simp only [Act.put, List.setIfInBounds_toArray, List.set_cons_zero, List.set_cons_succ, i64_w, i32_w]
     rfl
    refine pure_ (i := 8) (N := some 19) (v := ?_) (a' := ?_) #[true, true, true, true, true, true, true, true, true, false, false, false, false, false, false, false, false, false, false, false] rfl rfl (any_of HT_.out (by kernel_rfl)) (fun _ _ _ h => h) (Or.inl ⟨by rfl, ?_⟩) ?_ ?_
    rotate_left
    ·intro w'
     go_simp
     with_reducible rfl
    rotate_left
    ·simp only [Act.put, List.setIfInBounds_toArray, List.set_cons_zero, List.set_cons_succ, i64_w, i32_w]
     rfl
    refine pure_ (i := 9) (N := some 20) (v := undef) (a' := ?_) #[true, true, true, true, true, true, true, true, true, true, false, false, false, false, false, false, false, false, false, false] rfl rfl (any_of HT_.out (by kernel_rfl)) (fun _ _ _ h => h) (Or.inr ⟨by rfl, rfl⟩) ?_ ?_
    rotate_left
    ·simp only [Act.put, List.setIfInBounds_toArray, List.set_cons_zero, List.set_cons_succ, i64_w, i32_w]
     rfl
    refine pure_ (i := 10) (N := some 21) (v := undef) (a' := ?_) #[true, true, true, true, true, true, true, true, true, true, true, false, false, false, false, false, false, false, false, false] rfl rfl (any_of HT_.out (by kernel_rfl)) (fun _ _ _ h => h) (Or.inr ⟨by rfl, rfl⟩) ?_ ?_
    rotate_left
    ·simp only [Act.put, List.setIfInBounds_toArray, List.set_cons_zero, List.set_cons_succ, i64_w, i32_w]
     rfl
    refine pure_ (i := 11) (N := some 22) (v := undef) (a' := ?_) #[true, true, true, true, true, true, true, true, true, true, true, true, false, false, false, false, false, false, false, false] rfl rfl (any_of HT_.out (by kernel_rfl)) (fun _ _ _ h => h) (Or.inr ⟨by rfl, rfl⟩) ?_ ?_
    rotate_left
    ·simp only [Act.put, List.setIfInBounds_toArray, List.set_cons_zero, List.set_cons_succ, i64_w, i32_w]
     rfl
    refine pure_ (i := 12) (N := some 23) (v := undef) (a' := ?_) #[true, true, true, true, true, true, true, true, true, true, true, true, true, false, false, false, false, false, false, false] rfl rfl (any_of HT_.out (by kernel_rfl)) (fun _ _ _ h => h) (Or.inr ⟨by rfl, rfl⟩) ?_ ?_
    rotate_left
    ·simp only [Act.put, List.setIfInBounds_toArray, List.set_cons_zero, List.set_cons_succ, i64_w, i32_w]
     rfl
    refine pure_ (i := 13) (N := some 24) (v := undef) (a' := ?_) #[true, true, true, true, true, true, true, true, true, true, true, true, true, true, false, false, false, false, false, false] rfl rfl (any_of HT_.out (by kernel_rfl)) (fun _ _ _ h => h) (Or.inr ⟨by rfl, rfl⟩) ?_ ?_
    rotate_left
    ·simp only [Act.put, List.setIfInBounds_toArray, List.set_cons_zero, List.set_cons_succ, i64_w, i32_w]
     rfl
    refine pure_ (i := 14) (N := some 25) (v := undef) (a' := ?_) #[true, true, true, true, true, true, true, true, true, true, true, true, true, true, true, false, false, false, false, false] rfl rfl (any_of HT_.out (by kernel_rfl)) (fun _ _ _ h => h) (Or.inr ⟨by rfl, rfl⟩) ?_ ?_
    rotate_left
    ·simp only [Act.put, List.setIfInBounds_toArray, List.set_cons_zero, List.set_cons_succ, i64_w, i32_w]
     rfl
    refine pure_ (i := 15) (N := some 26) (v := undef) (a' := ?_) #[true, true, true, true, true, true, true, true, true, true, true, true, true, true, true, true, false, false, false, false] rfl rfl (any_of HT_.out (by kernel_rfl)) (fun _ _ _ h => h) (Or.inr ⟨by rfl, rfl⟩) ?_ ?_
    rotate_left
    ·simp only [Act.put, List.setIfInBounds_toArray, List.set_cons_zero, List.set_cons_succ, i64_w, i32_w]
     rfl
    refine pure_ (i := 16) (N := some 27) (v := undef) (a' := ?_) #[true, true, true, true, true, true, true, true, true, true, true, true, true, true, true, true, true, false, false, false] rfl rfl (any_of HT_.out (by kernel_rfl)) (fun _ _ _ h => h) (Or.inr ⟨by rfl, rfl⟩) ?_ ?_
    rotate_left
    ·simp only [Act.put, List.setIfInBounds_toArray, List.set_cons_zero, List.set_cons_succ, i64_w, i32_w]
     rfl
    refine pure_ (i := 17) (N := some 28) (v := undef) (a' := ?_) #[true, true, true, true, true, true, true, true, true, true, true, true, true, true, true, true, true, true, false, false] rfl rfl (any_of HT_.out (by kernel_rfl)) (fun _ _ _ h => h) (Or.inr ⟨by rfl, rfl⟩) ?_ ?_
    rotate_left
    ·simp only [Act.put, List.setIfInBounds_toArray, List.set_cons_zero, List.set_cons_succ, i64_w, i32_w]
     rfl
    refine pure_ (i := 18) (N := some 29) (v := ?_) (a' := ?_) #[true, true, true, true, true, true, true, true, true, true, true, true, true, true, true, true, true, true, true, false] rfl rfl (any_of HT_.out (by kernel_rfl)) (fun _ _ _ h => h) (Or.inl ⟨by rfl, ?_⟩) ?_ ?_
    rotate_left
    ·intro w'
     go_simp
     with_reducible rfl
    rotate_left
    ·simp only [Act.put, List.setIfInBounds_toArray, List.set_cons_zero, List.set_cons_succ, i64_w, i32_w]
     rfl
    refine pure_ (i := 19) (N := some 4) (v := ?_) (a' := ?_) #[true, true, true, true, true, true, true, true, true, true, true, true, true, true, true, true, true, true, true, true] rfl rfl (any_of HT_.out (by kernel_rfl)) (fun _ _ _ h => h) (Or.inl ⟨by rfl, ?_⟩) ?_ ?_
    rotate_left
    ·intro w'
     go_simp
     with_reducible rfl
    rotate_left
    ·simp only [Act.put, List.setIfInBounds_toArray, List.set_cons_zero, List.set_cons_succ, i64_w, i32_w]
     rfl
    refine done_ (done_of HT_.out (by kernel_rfl)) ?_
    try go_wp2
    go_ret
    exact ⟨by first | rfl | (simp [errW_none, errW_some] <;> rfl) | (simp [*, errW_none, errW_some] <;> rfl), bl_⟩
  ·rw [if_neg c4] at H
   exact absurd H (by simp)
 ·rw [if_neg c3] at H
  exact absurd H (by simp)

/-! ### field_Next: function 67 -/
section
open Go.Shelf
attribute [local go_sem] Oper.semAt_some

def protI (l : List S35) (i : Int) : Bool := (rd_T35 l i).f1.f0
/-- an open field begins at a cell, and has cells -/
def entI (l : List S35) (i : Int) : Bool := isF l i && !protI l i && !isF l (onI l.length i 1)
def firstI (l : List S35) (g : Nat → Int) : Int := if findW (entI l) g l.length 0 < 0 then -1 else onI l.length (findW (entI l) g l.length 0) 1
def nextI (l : List S35) (a : Int) : Int := firstI l (wayI l.length a 1)
def prevI (l : List S35) (a : Int) : Int := firstI l (wayI l.length a (-2))

theorem grid_On.eq (r c : Int) (l : List S35) (cu : Int) (lo ins : Bool) (a d : Int) (hn : l.length ≤ 16383) (h0 : 0 ≤ a) (h1 : a < l.length) : grid_On.f r c l cu lo ins a d = some (onI l.length a d) := by
 unfold grid_On.f
 rw [if_neg (by omega), on_eq l.length (by omega) hn a d h0 h1]
theorem field_enters.eq (r c : Int) (l : List S35) (cu : Int) (lo ins : Bool) (a : Int) (hn : l.length ≤ 16383) (h0 : 0 ≤ a) (h1 : a < l.length) : field_enters.f r c l cu lo ins a = some (entI l a) := by
 unfold field_enters.f
 have hp : 0 < l.length := by omega
 rw [if_pos h0, if_pos h1, grid_On.eq r c l cu lo ins a 1 hn h0 h1]
 simp only [Option.bind_some]
 rw [if_pos (onI_nonneg hp a 1), if_pos (onI_lt hp a 1)]
 unfold entI isF protI
 cases (rd_T35 l a).f0 <;> cases (rd_T35 l a).f1.f0 <;> simp

theorem keeps_of_below {W W' : World} (h : Below W.heap.size W W') (B : Nat) : KeepsFrom B W W' := ⟨h.size, fun k o _ hk _ => blk_below hk h⟩

set_option maxRecDepth 100000 in
set_option maxHeartbeats 4000000 in
theorem First_loop (r c : Int) (A : Option Addr) (cp : Nat) (l : List S35) (cu : Int) (lo ins : Bool) (a d : Int) (Bs Ba Bb : Nat) (w : World) (hr : Kd.C k35 w A l.length l) (hc : l.length ≤ cp) (hn : l.length ≤ 16383) (h0 : 0 ≤ a) (h1 : a < l.length)
  (hcs : w.heap[Bs]? = some (.cells #[.int .i64 r, .int .i64 c, .slice A l.length cp, .int .i64 cu, .bool lo, .bool ins] 24 (0, 0))) (hca : w.heap[Ba]? = some (.cells #[.int .i64 a] 3 (0, 0))) (hcb : w.heap[Bb]? = some (.cells #[.int .i64 d] 3 (0, 0))) :
  CallsIn Fence.wide 5 Tryd.prog 89 #[.agg #[.int .i64 r, .int .i64 c, .slice A l.length cp, .int .i64 cu, .bool lo, .bool ins], .func (.func 93) #[] #[.pointer (some ⟨Bs, 0, none⟩), .pointer (some ⟨Ba, 0, none⟩), .pointer (some ⟨Bb, 0, none⟩)]] w fun e w' => e = .returned (.int .i64 (firstI l (wayI l.length a d))) ∧ Below w.heap.size w w' := by
 have hpos : 0 < l.length := by omega
 have hu24 := Tryd.underlying24
 have hu35 := Tryd.underlying35
 refine callsIn_of_wp_marks Tryd.func89 rfl trivial ?_ rfl
 simp only [Tryd.ntmps89, List.size_toArray, List.length_cons, List.length_nil, Nat.reduceAdd, Nat.reduceSub, Array.replicate_succ, Array.replicate_zero, List.push_toArray, List.append_toArray, List.nil_append, List.cons_append]
 gi_wp2
 have hB0 : Below w.heap.size w ((w.alloc (.cells #[.int .i64 r, .int .i64 c, .slice A l.length cp, .int .i64 cu, .bool lo, .bool ins] 24)).alloc (.cells #[.int .i64 0] 3)) := ((Below.refl _ w).alloc (Nat.le_refl _) _).alloc (by simp) _
 have k1 := blk_new w (.cells #[.int .i64 r, .int .i64 c, .slice A l.length cp, .int .i64 cu, .bool lo, .bool ins] 24)
 have k2 := blk_new (w.alloc (.cells #[.int .i64 r, .int .i64 c, .slice A l.length cp, .int .i64 cu, .bool lo, .bool ins] 24)) (.cells #[.int .i64 0] 3)
 simp only [World.size_alloc] at k2
 have lS := blk_lt hcs
 have lA := blk_lt hca
 have lB := blk_lt hcb
 refine wpIn_rangeFunc_ownG rfl (by omega) (gf := 93) (lb := #[.pointer (some ⟨Bs, 0, none⟩), .pointer (some ⟨Ba, 0, none⟩), .pointer (some ⟨Bb, 0, none⟩)]) rfl trivial (enters_of Tryd.func93 (by kernel_rfl) rfl)
  (round_stops 4 (by omega) Bs Ba Bb r c A l.length cp cu lo ins a d hpos hn h0 h1 w hcs hca hcb) Keep3.trans (Keep3.put (by simp; omega) (by simp; omega) (by simp; omega)) hB0 (fun _ => rfl)
  (fun pre W => ((∀ x ∈ pre, entI l x.1 = false) ∧ W.heap[w.heap.size]? = some (.cells #[.int .i64 r, .int .i64 c, .slice A l.length cp, .int .i64 cu, .bool lo, .bool ins] 24 (0, 0)) ∧ Boxed W (w.heap.size + 1) 3 (.int .i64 0)) ∧ Below w.heap.size w W)
  (fun c' pre W => (c' = .ret ∧ ∃ ini last, pre = ini ++ [last] ∧ (∀ x ∈ ini, entI l x.1 = false) ∧ entI l last.1 = true ∧ Boxed W (w.heap.size + 1) 3 (.int .i64 (onI l.length last.1 1))) ∧ Below w.heap.size w W)
  (OwnFrom.and (Own.from (fun s A B row hs hg hr => ⟨hs.1, (grownBy_keeps_cells hg hr hs.2.1 rfl).trans hs.2.1, (grownBy_keeps_cells hg hr hs.2.2 rfl).trans hs.2.2⟩) _) (ownFrom_below (Nat.le_refl _) (by simp; omega)))
  (fun c => OwnFrom.and (Own.from (fun s A B row hs hg hr => by obtain ⟨hc, ini, last, e1, e2, e3, e4⟩ := hs; exact ⟨hc, ini, last, e1, e2, e3, (grownBy_keeps_cells hg hr e4 rfl).trans e4⟩) _) (ownFrom_below (Nat.le_refl _) (by simp; omega)))
  ⟨⟨by simp, blk_alloc k1 _, k2⟩, hB0⟩
  (fun x => { tmps := #[.agg #[.int .i64 r, .int .i64 c, .slice A l.length cp, .int .i64 cu, .bool lo, .bool ins], .func (.func 93) #[] #[.pointer (some ⟨Bs, 0, none⟩), .pointer (some ⟨Ba, 0, none⟩), .pointer (some ⟨Bb, 0, none⟩)], .pointer (some ⟨w.heap.size, 0, none⟩), undef, .pointer (some ⟨w.heap.size + 1, 0, none⟩), .int .i64 x.1, .func (.func 93) #[] #[.pointer (some ⟨Bs, 0, none⟩), .pointer (some ⟨Ba, 0, none⟩), .pointer (some ⟨Bb, 0, none⟩)], .int .i64 x.1, undef, undef, undef, undef, undef, undef], defers := [] }) ?assign ?body ?done ?stop
 case assign =>
  intro l x W K hK
  gi_wp2
  exact hK
 case body =>
  rintro lp pre x W ⟨⟨hp, hS, hR⟩, hB⟩ _
  have s0 := (blk_cell hS 0).trans rfl
  have s1 := (blk_cell hS 1).trans rfl
  have s2 := (blk_cell hS 2).trans rfl
  have s3 := (blk_cell hS 3).trans rfl
  have s4 := (blk_cell hS 4).trans rfl
  have s5 := (blk_cell hS 5).trans rfl
  have x0 := x.2.1
  have x1 := x.2.2
  have hE : ∀ b, entI l x.1 = b → Calls Tryd.prog 99 #[.agg #[.int .i64 r, .int .i64 c, .slice A l.length cp, .int .i64 cu, .bool lo, .bool ins], .int .i64 x.1] W fun e w' => e = .returned (.bool b) ∧ Below W.heap.size W w' :=
   fun b hb => field_enters.calls r c A cp l cu lo ins x.1 b W (Kd.C_below hr hB) hc (by rw [field_enters.eq r c l cu lo ins x.1 hn x0 x1, hb])
  cases hex : entI l x.1 with
  | false =>
   have hF := Aside0.mk (hE false hex)
   clear hE
   gi_wp2_with (refine ⟨trivial, ?_⟩; gi_at_call 99; refine (CallsIn.inRound lp (callsIn_wide.2 hF.out)).mono ?_; rintro e w' ⟨rfl, hb⟩)
   exact ⟨keeps_of_below hb _, Keep3.below hb (by have := hB.size; omega) (by have := hB.size; omega) (by have := hB.size; omega), ⟨fun y hy => (List.mem_append.1 hy).elim (hp y) (fun e => by simp at e; subst e; exact hex), blk_below hS hb, blk_below hR hb⟩, hB.trans (hb.mono hB.size)⟩
  | true =>
   have hF := Aside0.mk (hE true hex)
   clear hE
   gi_wp2_with (first
    | (refine ⟨trivial, ?_⟩; gi_at_call 99; refine (CallsIn.inRound lp (callsIn_wide.2 hF.out)).mono ?_; rintro e w' ⟨rfl, hb⟩; have hB' := hB.trans (hb.mono hB.size); have hS' := blk_below hS hb; have hR' : Boxed w' (w.heap.size + 1) 3 (.int .i64 0) := blk_below hR hb; have z0 := (blk_cell hS' 0).trans rfl; have z1 := (blk_cell hS' 1).trans rfl; have z2 := (blk_cell hS' 2).trans rfl; have z3 := (blk_cell hS' 3).trans rfl; have z4 := (blk_cell hS' 4).trans rfl; have z5 := (blk_cell hS' 5).trans rfl; have zR := hR'.cell; have zF := hR'.frozen)
    | (refine ⟨trivial, ?_⟩; gi_at_call 80; refine (CallsIn.inRound lp (callsIn_wide.2 (On_exact r c A l.length cp cu lo ins x.1 1 _ hpos hn x0 x1))).mono ?_; rintro e w2 ⟨rfl, rfl⟩; have yR := (hR'.alloc (.cells #[.int .i64 r, .int .i64 c, .slice A l.length cp, .int .i64 cu, .bool lo, .bool ins] 24)).cell; have yF := (hR'.alloc (.cells #[.int .i64 r, .int .i64 c, .slice A l.length cp, .int .i64 cu, .bool lo, .bool ins] 24)).frozen))
   exact ⟨((keeps_of_below hb _).trans ((KeepsOthers.alloc _ _).from _)).trans ((KeepsOthers.setCell _ _ _).from _), ⟨rfl, pre, x, rfl, hp, hex, (hR'.alloc _).set _⟩, (hB'.alloc (by have := hB'.size; omega) _).setCell (p := ⟨w.heap.size + 1, 0, none⟩) (Nat.le_succ _) _⟩
 case done =>
  rintro D ys W hD rfl ⟨⟨hne, hS, hR⟩, hB⟩ hK
  have rC := hR.cell
  have rF := hR.frozen
  gi_wp2
  have hK' := (KeepsOthers.setCell W ⟨w.heap.size + 1, 0, none⟩ (.int .i64 (-1))).same D _ hK rfl
  refine ⟨by simp, .inl ⟨_, _, rfl, run_takeDeferred hK', ?_⟩⟩
  have hc5 := cell_kept (hR.set (.int .i64 (-1))).cell (grownBy_putObj' _ D (.deferred none)) (fun r e => by cases e; exact ⟨_, hK', rfl⟩)
  have hE : firstI l (wayI l.length a d) = -1 := by
   rw [firstI, findW_none (entI l) (wayI l.length a d) l.length 0 (fun i _ hi => hne _ (mem_uptoI (wayS hpos a d) l.length i (by omega)))]; rfl
  refine ⟨.int .i64 (-1), ?_, by rw [hE], (hB.setCell (p := ⟨w.heap.size + 1, 0, none⟩) (Nat.le_succ _) _).trans (belowK_b (w := w) (Nat.le_refl _) _ D _ _ (by simp at hD; omega) hK' rfl rfl)⟩
  simp [results, Tryd.results89, go_sem, hc5]
 case stop =>
  rintro D c pre W hD ⟨k, hk, rfl⟩ ⟨⟨rfl, ini, last, e1, e2, e3, hR⟩, hB⟩ hK
  gi_wp2
  refine ⟨by simp, .inl ⟨_, _, rfl, run_takeDeferred hK, ?_⟩⟩
  have hc5 := cell_kept hR.cell (grownBy_putObj' _ D (.deferred none)) (fun r e => by cases e; exact ⟨_, hK, rfl⟩)
  obtain ⟨j, rfl, rfl, rfl⟩ := uptoI_last _ _ _ _ e1
  have hE : firstI l (wayI l.length a d) = onI l.length (wayI l.length a d j) 1 := by
   rw [firstI, findW_eq (entI l) (wayI l.length a d) l.length 0 j (by omega) (by omega) e3 (fun i _ hi => e2 _ (mem_uptoI (wayS hpos a d) j i hi)), if_neg (by have := wayI_nonneg hpos a d j; omega)]
  refine ⟨.int .i64 (onI l.length (wayI l.length a d j) 1), ?_, by rw [hE], hB.trans (belowK_b (w := w) (Nat.le_refl _) _ D _ _ (by simp at hD; omega) hK rfl rfl)⟩
  simp [results, Tryd.results89, go_sem, hc5]
  rfl


theorem First_calls (r c : Int) (A : Option Addr) (cp : Nat) (l : List S35) (cu : Int) (lo ins : Bool) (a d : Int) (Bs Ba Bb : Nat) (w : World) (hr : Kd.C k35 w A l.length l) (hc : l.length ≤ cp) (hn : l.length ≤ 16383) (h0 : 0 ≤ a) (h1 : a < l.length)
  (hcs : w.heap[Bs]? = some (.cells #[.int .i64 r, .int .i64 c, .slice A l.length cp, .int .i64 cu, .bool lo, .bool ins] 24 (0, 0))) (hca : w.heap[Ba]? = some (.cells #[.int .i64 a] 3 (0, 0))) (hcb : w.heap[Bb]? = some (.cells #[.int .i64 d] 3 (0, 0))) :
  Calls Tryd.prog 89 #[.agg #[.int .i64 r, .int .i64 c, .slice A l.length cp, .int .i64 cu, .bool lo, .bool ins], .func (.func 93) #[] #[.pointer (some ⟨Bs, 0, none⟩), .pointer (some ⟨Ba, 0, none⟩), .pointer (some ⟨Bb, 0, none⟩)]] w fun e w' => e = .returned (.int .i64 (firstI l (wayI l.length a d))) ∧ Below w.heap.size w w' :=
 callsIn_wide.1 (First_loop r c A cp l cu lo ins a d Bs Ba Bb w hr hc hn h0 h1 hcs hca hcb)

def field_Next.f (a0_0 : Int) (a0_1 : Int) (l0_2 : List (S35)) (a0_3 : Int) (a0_4 : Bool) (a0_5 : Bool) (a1 : Int) : Option Int := if l0_2.length ≤ 16383 then (if 0 ≤ a1 then (if a1 < (l0_2.length : Int) then (some (nextI l0_2 a1)) else (none)) else (none)) else (none)
theorem four_facts (w : World) (o1 o2 o3 o4 : Obj) : Below w.heap.size w ((((w.alloc o1).alloc o2).alloc o3).alloc o4) ∧ ((((w.alloc o1).alloc o2).alloc o3).alloc o4).heap[w.heap.size + 1]? = some o2 ∧ ((((w.alloc o1).alloc o2).alloc o3).alloc o4).heap[w.heap.size + 1 + 1]? = some o3 ∧ ((((w.alloc o1).alloc o2).alloc o3).alloc o4).heap[w.heap.size + 1 + 1 + 1]? = some o4 := by
 have k2 := blk_new (w.alloc o1) o2
 have k3 := blk_new ((w.alloc o1).alloc o2) o3
 have k4 := blk_new (((w.alloc o1).alloc o2).alloc o3) o4
 simp only [World.size_alloc] at k2 k3 k4
 exact ⟨below_alloc (below_alloc (below_alloc (below_alloc (Below.refl _ _) _) _) _) _, blk_alloc (blk_alloc k2 _) _, blk_alloc k3 _, k4⟩

set_option maxRecDepth 100000 in
set_option maxHeartbeats 4000000 in
theorem field_Next.calls (a0_0 : Int) (a0_1 : Int) (A0_2 : Option Addr) (c0_2 : Nat) (l0_2 : List (S35)) (a0_3 : Int) (a0_4 : Bool) (a0_5 : Bool) (a1 : Int) (r : Int) (w : World) (hr0_2 : Kd.C k35 w A0_2 l0_2.length l0_2) (hc0_2 : l0_2.length ≤ c0_2) (h : field_Next.f a0_0 a0_1 l0_2 a0_3 a0_4 a0_5 a1 = some r) :
  Calls Tryd.prog 67 #[.agg #[.int .i64 a0_0, .int .i64 a0_1, .slice A0_2 l0_2.length c0_2, .int .i64 a0_3, .bool a0_4, .bool a0_5], .int .i64 a1] w fun e w' => e = .returned (.int .i64 r) ∧ Below w.heap.size w w' := by
 obtain ⟨hn, h0, h1, rfl⟩ := guard3 h
 clear h
 have hu24 := Tryd.underlying24
 have HF := Aside0.mk (four_facts w (.cells #[.int .i64 a0_0, .int .i64 a0_1, .slice A0_2 l0_2.length c0_2, .int .i64 a0_3, .bool a0_4, .bool a0_5] 24) (.cells #[.int .i64 a0_0, .int .i64 a0_1, .slice A0_2 l0_2.length c0_2, .int .i64 a0_3, .bool a0_4, .bool a0_5] 24) (.cells #[.int .i64 a1] 3) (.cells #[.int .i64 (1)] 3))
 have HR := Aside0.mk hr0_2
 clear hr0_2
 go_enter Tryd.func67, Tryd.ntmps67
 go_wp2
 go_region_with (first
  | (go_at_call 75; refine (Round_exact a0_0 a0_1 _ _ c0_2 a0_3 a0_4 a0_5 a1 (1) _).mono ?_; rintro e w' ⟨rfl, rfl⟩)
  | (go_at_call 89; refine (First_calls a0_0 a0_1 _ c0_2 l0_2 a0_3 a0_4 a0_5 a1 (1) _ _ _ _ ?_ hc0_2 hn h0 h1 ?_ ?_ ?_).mono ?_; exact Kd.C_below HR.out HF.out.1.drew; exact HF.out.2.1; exact HF.out.2.2.1; exact HF.out.2.2.2; rintro e w' ⟨rfl, hb⟩))
 all_goals
  go_wp2
  go_ret
  exact ⟨rfl, below_step HF.out.1.drew hb⟩
end

end Go.Proofs.YtggecanpjkpkiaaDoor.P
