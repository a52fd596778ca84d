/- The functions of the seat's laws as plain Lean functions, and that Go's code comes to just their answers. Written by pp.py (wip/tools), a program of this session, on the kit's print. -/
import Derived.Test.YtapcfcagjlmgjaaDoorPx0
import Derived.Test.YtapcfcagjlmgjaaDoorPx3
namespace Go.Proofs.YtapcfcagjlmgjaaDoor.P
open Go.RowKit Go.Proofs.YtapcfcagjlmgjaaDoorW.PrintWords Go.Proofs.YtapcfcagjlmgjaaDoorW.PrintLast Go.Proofs.YtapcfcagjlmgjaaDoorW.PrintMore
attribute [local go_sem] max2_int min2_int max_two min_two max_three min_three max_four min_four   -- for this text's walks alone
attribute [local go_sem] Instr.field asAgg
set_option linter.unusedVariables false
set_option linter.unusedSimpArgs false

/-! ### field_enters: function 48 -/
def field_enters.f (a0_0 : Int) (a0_1 : Int) (l0_2 : List (S44)) (a0_3 : Int) (a0_4 : Bool) (a0_5 : Bool) (a1 : Int) : Option (Bool) := if 0 ≤ a1 then (if a1 < (l0_2.length : Int) then (if (rd_T44 l0_2 a1).f0 = true then (if ((rd_T44 l0_2 a1).f1.f0 = true) then (some false) else ((grid_On.f a0_0 a0_1 l0_2 a0_3 a0_4 a0_5 a1 1).bind fun t110 => (if 0 ≤ t110 then (if t110 < (l0_2.length : Int) then (some (!((rd_T44 l0_2 t110).f0))) else (none)) else (none)))) else (some false)) else (none)) else (none)
def field_enters.T2 : Bool × List (List Nat × List Nat) := (true, [([], []), ([0], [0]), ([1], [1]), ([2], [2]), ([3, 2], [2, 3]), ([4, 2], [2, 4]), ([5, 2], [2, 5]), ([2, 6], [2, 6]), ([7, 2], [7]), ([8], [8]), ([9, 8], [8, 9]), ([8], [8]), ([8], [8]), ([11, 12, 8, 8], [8, 11, 12]), ([10, 13, 8], [8, 10, 13]), ([14, 8], [8, 14]), ([15, 8], [8, 15]), ([16, 8], [8, 16]), ([8, 17], [8, 17]), ([18, 13, 0, 1, 2, 3, 4, 5, 6, 7, 8, 9, 10, 11, 12, 13, 14, 15, 16, 17, 18], [18])])
def field_enters.B2 : List Nat := [0, 1, 3, 7, 15, 31, 63, 127, 255, 511, 1023, 511, 511, 6655, 16383, 32767, 65535, 131071, 262143, 524287]
theorem field_enters.tab2 : rtab .any (opsOf Tryd.f48 2) = field_enters.T2 := by kernel_rfl
theorem field_enters.bits2 : waitsOk field_enters.T2.2 field_enters.B2 = true := by kernel_rfl
set_option maxHeartbeats 8000000 in
set_option maxRecDepth 100000 in
theorem field_enters.calls (a0_0 : Int) (a0_1 : Int) (A0_2 : Option Addr) (c0_2 : Nat) (l0_2 : List (S44)) (a0_3 : Int) (a0_4 : Bool) (a0_5 : Bool) (a1 : Int) (r : Bool) (w : World) (hr0_2 : Kd.C k44 w A0_2 l0_2.length l0_2) (hc0_2 : l0_2.length ≤ c0_2) (h : field_enters.f a0_0 a0_1 l0_2 a0_3 a0_4 a0_5 a1 = some r) :
  Calls Tryd.prog 48 #[.agg #[.int .i64 a0_0, .int .i64 a0_1, .slice A0_2 l0_2.length c0_2, .int .i64 a0_3, .bool a0_4, .bool a0_5], .int .i64 a1] w fun e w' => e = .returned (.bool r) ∧ Below w.heap.size w w' := by
 have hu24 := Tryd.underlying24
 have hu44 := Tryd.underlying44
 have HR0_2 := Aside0.mk hr0_2
 have HC0_2 := Aside0.mk hc0_2
 clear hr0_2 hc0_2
 have HB := Aside0.mk (Below.refl w.heap.size w)
 have H : (if 0 ≤ a1 then (if a1 < (l0_2.length : Int) then (if (rd_T44 l0_2 a1).f0 = true then (if ((rd_T44 l0_2 a1).f1.f0 = true) then (some false) else ((grid_On.f a0_0 a0_1 l0_2 a0_3 a0_4 a0_5 a1 1).bind fun t110 => (if 0 ≤ t110 then (if t110 < (l0_2.length : Int) then (some (!((rd_T44 l0_2 t110).f0))) else (none)) else (none)))) else (some false)) else (none)) else (none)) = some r := h
 clear h
 by_cases c3 : 0 ≤ a1
 ·rw [if_pos c3] at H
  have c3b0 : decide (0 ≤ a1) = true := decide_eq_true c3
  clear c3
  by_cases c4 : a1 < (l0_2.length : Int)
  ·rw [if_pos c4] at H
   have c4b0 : decide (a1 < (l0_2.length : Int)) = true := decide_eq_true c4
   clear c4
   obtain ⟨bq5, hbq5⟩ : ∃ b_ : Bool, b_ = ((rd_T44 l0_2 a1).f0) := ⟨_, rfl⟩
   replace H : (if bq5 = true then (if ((rd_T44 l0_2 a1).f1.f0 = true) then (some false) else ((grid_On.f a0_0 a0_1 l0_2 a0_3 a0_4 a0_5 a1 1).bind fun t110 => (if 0 ≤ t110 then (if t110 < (l0_2.length : Int) then (some (!((rd_T44 l0_2 t110).f0))) else (none)) else (none)))) else (some false)) = some r := by rw [← hbq5] at H; exact H
   have Nbq5 := Aside0.mk hbq5
   clear hbq5
   by_cases c6 : bq5 = true
   ·subst c6
    have H1 : (if ((rd_T44 l0_2 a1).f1.f0 = true) then (some false) else ((grid_On.f a0_0 a0_1 l0_2 a0_3 a0_4 a0_5 a1 1).bind fun t110 => (if 0 ≤ t110 then (if t110 < (l0_2.length : Int) then (some (!((rd_T44 l0_2 t110).f0))) else (none)) else (none)))) = some r := by rw [if_pos rfl] at H; exact H
    clear H
    have H := H1
    clear H1
    obtain ⟨bq7, hbq7⟩ : ∃ b_ : Bool, b_ = ((rd_T44 l0_2 a1).f1.f0) := ⟨_, rfl⟩
    replace H : (if (bq7 = true) then (some false) else ((grid_On.f a0_0 a0_1 l0_2 a0_3 a0_4 a0_5 a1 1).bind fun t110 => (if 0 ≤ t110 then (if t110 < (l0_2.length : Int) then (some (!((rd_T44 l0_2 t110).f0))) else (none)) else (none)))) = some r := by rw [← hbq7] at H; exact H
    have Nbq7 := Aside0.mk hbq7
    clear hbq7
    by_cases c8 : (bq7 = true)
    ·subst c8
     have H1 : (some false) = some r := by rw [if_pos rfl] at H; exact H
     clear H
     have H := H1
     clear H1
     obtain rfl := Option.some.inj H
     go_enter Tryd.func48, Tryd.ntmps48
     try go_wp2_with (first | ((with_reducible refine gate_dst (N := 2) rfl ?_); refine box_event ?hg (N := 2) ?hd (cs := #[.int .i64 a0_0, .int .i64 a0_1, .slice A0_2 l0_2.length c0_2, .int .i64 a0_3, .bool a0_4, .bool a0_5]) (t := 24) ?hr ?_; (case hd => rfl); (case hg => rfl); (case hr => first | (go_simp; done) | (go_simp; rfl)); intro gb107 hg w9 hbox hb; have n0_ := Aside0.mk (below_step bl_ hb); have n1_ := Aside0.mk (hbox); have n2_ := Aside0.mk ((le_new hg (below_size bl_) : w.heap.size ≤ gb107)); have n3_ := Aside0.mk ((le_new hg (below_size bl_) : w.heap.size ≤ gb107)); clear HB; have HB := n0_; have BK107 := n1_; have GW107 := n2_; have GE107 := n3_; clear n0_ n1_ n2_ n3_; clear hb hbox hg; obtain ⟨hcz10_0, hcz10_1, hcz10_2, hcz10_3, hcz10_4, hcz10_5, hfz10_0, hfz10_1, hfz10_2, hfz10_3, hfz10_4, hfz10_5⟩ := cells6 (show w9.heap[gb107]? = some (.cells #[.int .i64 a0_0, .int .i64 a0_1, .slice A0_2 l0_2.length c0_2, .int .i64 a0_3, .bool a0_4, .bool a0_5] _ (0, 0)) from BK107.out); have p108 : 0 ≤ (a1 : Int) := of_decide_eq_true (by first | (with_reducible assumption) | assumption); have q108 : a1 < (l0_2.length : Int) := of_decide_eq_true (by first | (with_reducible assumption) | assumption); obtain ⟨ad108, e108, hx108_0, hx108_1, hx108_2, hx108_3, hx108_4, hx108_5⟩ := at_T44 HR0_2.out a1 p108 q108; (try rw [← Nbq5.out] at hx108_0); (try rw [← Nbq7.out] at hx108_0); (try rw [← Nbq5.out] at hx108_1); (try rw [← Nbq7.out] at hx108_1); (try rw [← Nbq5.out] at hx108_2); (try rw [← Nbq7.out] at hx108_2); (try rw [← Nbq5.out] at hx108_4); (try rw [← Nbq7.out] at hx108_4); cases e108; replace hx108_0 := (HB.out.cell (World.block_lt_of_cell? w _ hx108_0)).trans hx108_0; replace hx108_1 := (HB.out.cell (World.block_lt_of_cell? w _ hx108_1)).trans hx108_1; replace hx108_2 := (HB.out.cell (World.block_lt_of_cell? w _ hx108_2)).trans hx108_2; replace hx108_3 := (HB.out.cell (World.block_lt_of_cell? w _ hx108_3)).trans hx108_3; replace hx108_4 := (HB.out.cell (World.block_lt_of_cell? w _ hx108_4)).trans hx108_4; replace hx108_5 := (HB.out.cell (World.block_lt_of_cell? w _ hx108_5)).trans hx108_5; replace p108 := eq_true p108; replace q108 := eq_true q108) | ((with_reducible refine gate_dst (N := 5) rfl ?_); refine box_event ?hg (N := 5) ?hd (cs := #[.bool false, .bool false, .bool false, .int .i64 0, .bool false, .int .u8 0]) (t := 44) ?hr ?_; (case hd => rfl); (case hg => rfl); (case hr => first | (go_simp; done) | (go_simp; rfl)); intro gb109 hg w11 hbox hb; have n0_ := Aside0.mk (blk_below (g := gb107) (o := .cells #[.int .i64 a0_0, .int .i64 a0_1, .slice (some ad108) l0_2.length c0_2, .int .i64 a0_3, .bool a0_4, .bool a0_5] 24 (0, 0)) (by (with_reducible repeat apply pK); exact BK107.out) hb); have n1_ := Aside0.mk (below_step bl_ hb); have n2_ := Aside0.mk (hbox); have n3_ := Aside0.mk ((le_new hg (below_size bl_) : w.heap.size ≤ gb109)); have n4_ := Aside0.mk ((le_new hg (below_size bl_) : w.heap.size ≤ gb109)); have n5_ := Aside0.mk ((by rw [hg]; exact Nat.ne_of_lt (blk_lt (g := gb107) (o := .cells #[.int .i64 a0_0, .int .i64 a0_1, .slice (some ad108) l0_2.length c0_2, .int .i64 a0_3, .bool a0_4, .bool a0_5] 24 (0, 0)) (by (with_reducible repeat apply pK); exact BK107.out)) : gb107 ≠ gb109)); have n6_ := Aside0.mk ((by rw [hg]; exact Nat.ne_of_gt (blk_lt (g := gb107) (o := .cells #[.int .i64 a0_0, .int .i64 a0_1, .slice (some ad108) l0_2.length c0_2, .int .i64 a0_3, .bool a0_4, .bool a0_5] 24 (0, 0)) (by (with_reducible repeat apply pK); exact BK107.out)) : gb109 ≠ gb107)); clear BK107; clear HB; have BK107 := n0_; have HB := n1_; have BK109 := n2_; have GW109 := n3_; have GE109 := n4_; have NB107_109 := n5_; have NB109_107 := n6_; clear n0_ n1_ n2_ n3_ n4_ n5_ n6_; clear hb hbox hg; have hnb12 := NB109_107.out; have hnc12 := NB107_109.out; obtain ⟨hcz13_0, hcz13_1, hcz13_2, hcz13_3, hcz13_4, hcz13_5, hfz13_0, hfz13_1, hfz13_2, hfz13_3, hfz13_4, hfz13_5⟩ := cells6 (show w11.heap[gb109]? = some (.cells #[.bool false, .bool false, .bool false, .int .i64 0, .bool false, .int .u8 0] _ (0, 0)) from BK109.out)))
     have n0_ : Aside0 (((((((w11.setCell ⟨gb109, 0, none⟩ (.bool true)).setCell ⟨gb109, 1, none⟩ (.bool true)).setCell ⟨gb109, 2, none⟩ (.bool ((rd_T44 l0_2 a1).f1.f1))).setCell ⟨gb109, 3, none⟩ (.int .i64 ((rd_T44 l0_2 a1).f1.f2))).setCell ⟨gb109, 4, none⟩ (.bool ((rd_T44 l0_2 a1).f1.f3))).setCell ⟨gb109, 5, none⟩ (.int .u8 ((rd_T44 l0_2 a1).f2))).heap[gb107]? = some (.cells #[.int .i64 a0_0, .int .i64 a0_1, .slice (some ad108) l0_2.length c0_2, .int .i64 a0_3, .bool a0_4, .bool a0_5] 24 (0, 0))) := ⟨by (with_reducible repeat apply pK); refine blk_far ?_ NB107_109.out _; (with_reducible repeat apply pK); refine blk_far ?_ NB107_109.out _; (with_reducible repeat apply pK); refine blk_far ?_ NB107_109.out _; (with_reducible repeat apply pK); refine blk_far ?_ NB107_109.out _; (with_reducible repeat apply pK); refine blk_far ?_ NB107_109.out _; (with_reducible repeat apply pK); refine blk_far ?_ NB107_109.out _; (with_reducible repeat apply pK); exact BK107.out⟩
     have n1_ : Aside0 (((((((w11.setCell ⟨gb109, 0, none⟩ (.bool true)).setCell ⟨gb109, 1, none⟩ (.bool true)).setCell ⟨gb109, 2, none⟩ (.bool ((rd_T44 l0_2 a1).f1.f1))).setCell ⟨gb109, 3, none⟩ (.int .i64 ((rd_T44 l0_2 a1).f1.f2))).setCell ⟨gb109, 4, none⟩ (.bool ((rd_T44 l0_2 a1).f1.f3))).setCell ⟨gb109, 5, none⟩ (.int .u8 ((rd_T44 l0_2 a1).f2))).heap[gb109]? = some (.cells #[.bool true, .bool true, .bool ((rd_T44 l0_2 a1).f1.f1), .int .i64 ((rd_T44 l0_2 a1).f1.f2), .bool ((rd_T44 l0_2 a1).f1.f3), .int .u8 ((rd_T44 l0_2 a1).f2)] 44 (0, 0))) := ⟨by (with_reducible repeat apply pK); refine blk_put (cs := #[.bool true, .bool true, .bool ((rd_T44 l0_2 a1).f1.f1), .int .i64 ((rd_T44 l0_2 a1).f1.f2), .bool ((rd_T44 l0_2 a1).f1.f3), .int .u8 0]) ?_ 5 _ rfl; (with_reducible repeat apply pK); refine blk_put (cs := #[.bool true, .bool true, .bool ((rd_T44 l0_2 a1).f1.f1), .int .i64 ((rd_T44 l0_2 a1).f1.f2), .bool false, .int .u8 0]) ?_ 4 _ rfl; (with_reducible repeat apply pK); refine blk_put (cs := #[.bool true, .bool true, .bool ((rd_T44 l0_2 a1).f1.f1), .int .i64 0, .bool false, .int .u8 0]) ?_ 3 _ rfl; (with_reducible repeat apply pK); refine blk_put (cs := #[.bool true, .bool true, .bool false, .int .i64 0, .bool false, .int .u8 0]) ?_ 2 _ rfl; (with_reducible repeat apply pK); refine blk_put (cs := #[.bool true, .bool false, .bool false, .int .i64 0, .bool false, .int .u8 0]) ?_ 1 _ rfl; (with_reducible repeat apply pK); refine blk_put (cs := #[.bool false, .bool false, .bool false, .int .i64 0, .bool false, .int .u8 0]) ?_ 0 _ rfl; (with_reducible repeat apply pK); exact BK109.out⟩
     have n2_ : Aside0 (Below w.heap.size w ((((((w11.setCell ⟨gb109, 0, none⟩ (.bool true)).setCell ⟨gb109, 1, none⟩ (.bool true)).setCell ⟨gb109, 2, none⟩ (.bool ((rd_T44 l0_2 a1).f1.f1))).setCell ⟨gb109, 3, none⟩ (.int .i64 ((rd_T44 l0_2 a1).f1.f2))).setCell ⟨gb109, 4, none⟩ (.bool ((rd_T44 l0_2 a1).f1.f3))).setCell ⟨gb109, 5, none⟩ (.int .u8 ((rd_T44 l0_2 a1).f2)))) := ⟨bl_⟩
     (try clear BK107)
     (try clear BK109)
     (try clear HB)
     generalize ((((((w11.setCell ⟨gb109, 0, none⟩ (.bool true)).setCell ⟨gb109, 1, none⟩ (.bool true)).setCell ⟨gb109, 2, none⟩ (.bool ((rd_T44 l0_2 a1).f1.f1))).setCell ⟨gb109, 3, none⟩ (.int .i64 ((rd_T44 l0_2 a1).f1.f2))).setCell ⟨gb109, 4, none⟩ (.bool ((rd_T44 l0_2 a1).f1.f3))).setCell ⟨gb109, 5, none⟩ (.int .u8 ((rd_T44 l0_2 a1).f2))) = w14 at n0_ n1_ n2_ ⊢
     have BK107 := n0_
     have BK109 := n1_
     have HB := n2_
     clear n0_ n1_ n2_
     have n0_ := Aside0.mk (blk_drew BK107.out)
     have n1_ := Aside0.mk (blk_drew BK109.out)
     have n2_ := Aside0.mk (below_drew1 HB.out)
     clear BK107
     clear BK109
     clear HB
     have BK107 := n0_
     have BK109 := n1_
     have HB := n2_
     clear n0_ n1_ n2_
     refine start_ (n := 20) (S := fun w' => w'.cell? ⟨gb109, 0, none⟩ = some (.bool true) ∧ w'.cell? ⟨gb109, 1, none⟩ = some (.bool true) ∧ w'.cell? ⟨gb109, 2, none⟩ = some (.bool ((rd_T44 l0_2 a1).f1.f1)) ∧ w'.cell? ⟨gb109, 3, none⟩ = some (.int .i64 ((rd_T44 l0_2 a1).f1.f2)) ∧ w'.cell? ⟨gb109, 4, none⟩ = some (.bool ((rd_T44 l0_2 a1).f1.f3)) ∧ w'.cell? ⟨gb109, 5, none⟩ = some (.int .u8 ((rd_T44 l0_2 a1).f2))) (ds := []) #[false, false, false, false, false, false, false, false, false, false, false, false, false, false, false, false, false, false, false, false] (by kernel_rfl) rfl rfl ⟨(blk_cell BK109.out 0).trans rfl, (blk_cell BK109.out 1).trans rfl, (blk_cell BK109.out 2).trans rfl, (blk_cell BK109.out 3).trans rfl, (blk_cell BK109.out 4).trans rfl, (blk_cell BK109.out 5).trans rfl⟩ (fun hHeld => ?_); refine with_tabW field_enters.tab2 field_enters.bits2 (fun HT_ HW_ => ?_)
     generalize w14.drew = w15 at BK107 BK109 HB hHeld ⊢
     refine pure_ (i := 0) (N := some 11) (v := ?_) (a' := ?_) #[true, false, false, false, false, false, false, false, false, false, false, false, false, false, false, false, false, false, false, false] rfl rfl (any_of HT_.out (by kernel_rfl)) (fun _ _ _ h => h) (Or.inl ⟨by rfl, ?_⟩) ?_ ?_
     rotate_left
     ·intro w'
      go_simp
      with_reducible rfl
     rotate_left
     ·simp only [Act.put, List.setIfInBounds_toArray, List.set_cons_zero, List.set_cons_succ, i64_w, i32_w]
      rfl
     refine take_ (i := 1) (N := some 12) (v := ?_) (a' := ?_) #[true, true, false, false, false, false, false, false, false, false, false, false, false, false, false, false, false, false, false, false] rfl rfl (take_ofW HT_.out HW_.out (by kernel_rfl)) (fun _ _ _ h => h) (Or.inl ⟨by rfl, ?_⟩) hHeld ?_ ?_
     rotate_left
     ·rintro w' ⟨s0, s1, s2, s3, s4, s5⟩
      go_simp
      with_reducible rfl
     rotate_left
     ·simp only [Act.put, List.setIfInBounds_toArray, List.set_cons_zero, List.set_cons_succ, i64_w, i32_w]
      rfl
     refine pure_ (i := 2) (N := some 13) (v := ?_) (a' := ?_) #[true, true, true, false, false, false, false, false, false, false, false, false, false, false, false, false, false, false, false, false] rfl rfl (any_of HT_.out (by kernel_rfl)) (fun _ _ _ h => h) (Or.inl ⟨by rfl, ?_⟩) ?_ ?_
     rotate_left
     ·intro w'
      go_simp
      with_reducible rfl
     rotate_left
     ·simp only [Act.put, List.setIfInBounds_toArray, List.set_cons_zero, List.set_cons_succ, i64_w, i32_w]
      rfl
     refine pure_ (i := 3) (N := some 14) (v := ?_) (a' := ?_) #[true, true, true, true, false, false, false, false, false, false, false, false, false, false, false, false, false, false, false, false] rfl rfl (any_of HT_.out (by kernel_rfl)) (fun _ _ _ h => h) (Or.inl ⟨by rfl, ?_⟩) ?_ ?_
     rotate_left
     ·intro w'
      go_simp
      with_reducible rfl
     rotate_left
     ·simp only [Act.put, List.setIfInBounds_toArray, List.set_cons_zero, List.set_cons_succ, i64_w, i32_w]
      rfl
     refine pure_ (i := 4) (N := some 15) (v := ?_) (a' := ?_) #[true, true, true, true, true, false, false, false, false, false, false, false, false, false, false, false, false, false, false, false] rfl rfl (any_of HT_.out (by kernel_rfl)) (fun _ _ _ h => h) (Or.inl ⟨by rfl, ?_⟩) ?_ ?_
     rotate_left
     ·intro w'
      go_simp
      with_reducible rfl
     rotate_left
     ·simp only [Act.put, List.setIfInBounds_toArray, List.set_cons_zero, List.set_cons_succ, i64_w, i32_w]
      rfl
     refine take_ (i := 5) (N := some 16) (v := ?_) (a' := ?_) #[true, true, true, true, true, true, false, false, false, false, false, false, false, false, false, false, false, false, false, false] rfl rfl (take_ofW HT_.out HW_.out (by kernel_rfl)) (fun _ _ _ h => h) (Or.inl ⟨by rfl, ?_⟩) hHeld ?_ ?_
     rotate_left
     ·rintro w' ⟨s0, s1, s2, s3, s4, s5⟩
      go_simp
      with_reducible rfl
     rotate_left
     ·simp only [Act.put, List.setIfInBounds_toArray, List.set_cons_zero, List.set_cons_succ, i64_w, i32_w]
      rfl
     refine pure_ (i := 6) (N := some 17) (v := ?_) (a' := ?_) #[true, true, true, true, true, true, true, false, false, false, false, false, false, false, false, false, false, false, false, false] rfl rfl (any_of HT_.out (by kernel_rfl)) (fun _ _ _ h => h) (Or.inl ⟨by rfl, ?_⟩) ?_ ?_
     rotate_left
     ·intro w'
      go_simp
      with_reducible rfl
     rotate_left
     ·simp only [Act.put, List.setIfInBounds_toArray, List.set_cons_zero, List.set_cons_succ, i64_w, i32_w]
      rfl
     refine pure_ (i := 7) (N := some 18) (v := ?_) (a' := ?_) #[true, true, true, true, true, true, true, true, false, false, false, false, false, false, false, false, false, false, false, false] rfl rfl (any_of HT_.out (by kernel_rfl)) (fun _ _ _ h => h) (Or.inl ⟨by rfl, ?_⟩) ?_ ?_
     rotate_left
     ·intro w'
      go_simp
      with_reducible rfl
     rotate_left
     ·simp only [Act.put, List.setIfInBounds_toArray, List.set_cons_zero, List.set_cons_succ, i64_w, i32_w]
      rfl
     refine pure_ (i := 8) (N := some 19) (v := ?_) (a' := ?_) #[true, true, true, true, true, true, true, true, true, false, false, false, false, false, false, false, false, false, false, false] rfl rfl (any_of HT_.out (by kernel_rfl)) (fun _ _ _ h => h) (Or.inl ⟨by rfl, ?_⟩) ?_ ?_
     rotate_left
     ·intro w'
      go_simp
      with_reducible rfl
     rotate_left
     ·simp only [Act.put, List.setIfInBounds_toArray, List.set_cons_zero, List.set_cons_succ, i64_w, i32_w]
      rfl
     refine pure_ (i := 9) (N := some 20) (v := undef) (a' := ?_) #[true, true, true, true, true, true, true, true, true, true, false, false, false, false, false, false, false, false, false, false] rfl rfl (any_of HT_.out (by kernel_rfl)) (fun _ _ _ h => h) (Or.inr ⟨by rfl, rfl⟩) ?_ ?_
     rotate_left
     ·simp only [Act.put, List.setIfInBounds_toArray, List.set_cons_zero, List.set_cons_succ, i64_w, i32_w]
      rfl
     refine pure_ (i := 10) (N := some 21) (v := undef) (a' := ?_) #[true, true, true, true, true, true, true, true, true, true, true, false, false, false, false, false, false, false, false, false] rfl rfl (any_of HT_.out (by kernel_rfl)) (fun _ _ _ h => h) (Or.inr ⟨by rfl, rfl⟩) ?_ ?_
     rotate_left
     ·simp only [Act.put, List.setIfInBounds_toArray, List.set_cons_zero, List.set_cons_succ, i64_w, i32_w]
      rfl
     refine pure_ (i := 11) (N := some 22) (v := undef) (a' := ?_) #[true, true, true, true, true, true, true, true, true, true, true, true, false, false, false, false, false, false, false, false] rfl rfl (any_of HT_.out (by kernel_rfl)) (fun _ _ _ h => h) (Or.inr ⟨by rfl, rfl⟩) ?_ ?_
     rotate_left
     ·simp only [Act.put, List.setIfInBounds_toArray, List.set_cons_zero, List.set_cons_succ, i64_w, i32_w]
      rfl
     refine pure_ (i := 12) (N := some 23) (v := undef) (a' := ?_) #[true, true, true, true, true, true, true, true, true, true, true, true, true, false, false, false, false, false, false, false] rfl rfl (any_of HT_.out (by kernel_rfl)) (fun _ _ _ h => h) (Or.inr ⟨by rfl, rfl⟩) ?_ ?_
     rotate_left
     ·simp only [Act.put, List.setIfInBounds_toArray, List.set_cons_zero, List.set_cons_succ, i64_w, i32_w]
      rfl
     refine pure_ (i := 13) (N := some 24) (v := undef) (a' := ?_) #[true, true, true, true, true, true, true, true, true, true, true, true, true, true, false, false, false, false, false, false] rfl rfl (any_of HT_.out (by kernel_rfl)) (fun _ _ _ h => h) (Or.inr ⟨by rfl, rfl⟩) ?_ ?_
     rotate_left
     ·simp only [Act.put, List.setIfInBounds_toArray, List.set_cons_zero, List.set_cons_succ, i64_w, i32_w]
      rfl
     refine pure_ (i := 14) (N := some 25) (v := undef) (a' := ?_) #[true, true, true, true, true, true, true, true, true, true, true, true, true, true, true, false, false, false, false, false] rfl rfl (any_of HT_.out (by kernel_rfl)) (fun _ _ _ h => h) (Or.inr ⟨by rfl, rfl⟩) ?_ ?_
     rotate_left
     ·simp only [Act.put, List.setIfInBounds_toArray, List.set_cons_zero, List.set_cons_succ, i64_w, i32_w]
      rfl
     refine pure_ (i := 15) (N := some 26) (v := undef) (a' := ?_) #[true, true, true, true, true, true, true, true, true, true, true, true, true, true, true, true, false, false, false, false] rfl rfl (any_of HT_.out (by kernel_rfl)) (fun _ _ _ h => h) (Or.inr ⟨by rfl, rfl⟩) ?_ ?_
     rotate_left
     ·simp only [Act.put, List.setIfInBounds_toArray, List.set_cons_zero, List.set_cons_succ, i64_w, i32_w]
      rfl
     refine pure_ (i := 16) (N := some 27) (v := undef) (a' := ?_) #[true, true, true, true, true, true, true, true, true, true, true, true, true, true, true, true, true, false, false, false] rfl rfl (any_of HT_.out (by kernel_rfl)) (fun _ _ _ h => h) (Or.inr ⟨by rfl, rfl⟩) ?_ ?_
     rotate_left
     ·simp only [Act.put, List.setIfInBounds_toArray, List.set_cons_zero, List.set_cons_succ, i64_w, i32_w]
      rfl
     refine pure_ (i := 17) (N := some 28) (v := undef) (a' := ?_) #[true, true, true, true, true, true, true, true, true, true, true, true, true, true, true, true, true, true, false, false] rfl rfl (any_of HT_.out (by kernel_rfl)) (fun _ _ _ h => h) (Or.inr ⟨by rfl, rfl⟩) ?_ ?_
     rotate_left
     ·simp only [Act.put, List.setIfInBounds_toArray, List.set_cons_zero, List.set_cons_succ, i64_w, i32_w]
      rfl
     refine pure_ (i := 18) (N := some 29) (v := ?_) (a' := ?_) #[true, true, true, true, true, true, true, true, true, true, true, true, true, true, true, true, true, true, true, false] rfl rfl (any_of HT_.out (by kernel_rfl)) (fun _ _ _ h => h) (Or.inl ⟨by rfl, ?_⟩) ?_ ?_
     rotate_left
     ·intro w'
      go_simp
      with_reducible rfl
     rotate_left
     ·simp only [Act.put, List.setIfInBounds_toArray, List.set_cons_zero, List.set_cons_succ, i64_w, i32_w]
      rfl
     refine pure_ (i := 19) (N := some 4) (v := ?_) (a' := ?_) #[true, true, true, true, true, true, true, true, true, true, true, true, true, true, true, true, true, true, true, true] rfl rfl (any_of HT_.out (by kernel_rfl)) (fun _ _ _ h => h) (Or.inl ⟨by rfl, ?_⟩) ?_ ?_
     rotate_left
     ·intro w'
      go_simp
      with_reducible rfl
     rotate_left
     ·simp only [Act.put, List.setIfInBounds_toArray, List.set_cons_zero, List.set_cons_succ, i64_w, i32_w]
      rfl
     refine done_ (done_of HT_.out (by kernel_rfl)) ?_
     try go_wp2
     go_ret
     exact ⟨by first | rfl | (simp [errW_none, errW_some] <;> rfl) | (simp [*, errW_none, errW_some] <;> rfl), bl_⟩
    ·replace c8 := Bool.eq_false_iff.mpr c8
     subst c8
     have H1 : ((grid_On.f a0_0 a0_1 l0_2 a0_3 a0_4 a0_5 a1 1).bind fun t110 => (if 0 ≤ t110 then (if t110 < (l0_2.length : Int) then (some (!((rd_T44 l0_2 t110).f0))) else (none)) else (none))) = some r := by rw [if_neg (show ¬ (false = true) by decide)] at H; exact H
     clear H
     have H := H1
     clear H1
     replace H := Option.bind_eq_some_iff.mp H
     obtain ⟨t110, A160, H⟩ := H
     replace H : (if 0 ≤ t110 then (if t110 < (l0_2.length : Int) then (some (!((rd_T44 l0_2 t110).f0))) else (none)) else (none)) = some r := H
     have A16 := Aside0.mk A160
     clear A160
     by_cases c17 : 0 ≤ t110
     ·rw [if_pos c17] at H
      have c17b0 : decide (0 ≤ t110) = true := decide_eq_true c17
      clear c17
      by_cases c18 : t110 < (l0_2.length : Int)
      ·rw [if_pos c18] at H
       have c18b0 : decide (t110 < (l0_2.length : Int)) = true := decide_eq_true c18
       clear c18
       obtain rfl := Option.some.inj H
       go_enter Tryd.func48, Tryd.ntmps48
       try go_wp2_with (first | ((with_reducible refine gate_dst (N := 2) rfl ?_); refine box_event ?hg (N := 2) ?hd (cs := #[.int .i64 a0_0, .int .i64 a0_1, .slice A0_2 l0_2.length c0_2, .int .i64 a0_3, .bool a0_4, .bool a0_5]) (t := 24) ?hr ?_; (case hd => rfl); (case hg => rfl); (case hr => first | (go_simp; done) | (go_simp; rfl)); intro gb107 hg w19 hbox hb; have n0_ := Aside0.mk (below_step bl_ hb); have n1_ := Aside0.mk (hbox); have n2_ := Aside0.mk ((le_new hg (below_size bl_) : w.heap.size ≤ gb107)); have n3_ := Aside0.mk ((le_new hg (below_size bl_) : w.heap.size ≤ gb107)); clear HB; have HB := n0_; have BK107 := n1_; have GW107 := n2_; have GE107 := n3_; clear n0_ n1_ n2_ n3_; clear hb hbox hg; obtain ⟨hcz20_0, hcz20_1, hcz20_2, hcz20_3, hcz20_4, hcz20_5, hfz20_0, hfz20_1, hfz20_2, hfz20_3, hfz20_4, hfz20_5⟩ := cells6 (show w19.heap[gb107]? = some (.cells #[.int .i64 a0_0, .int .i64 a0_1, .slice A0_2 l0_2.length c0_2, .int .i64 a0_3, .bool a0_4, .bool a0_5] _ (0, 0)) from BK107.out); have p108 : 0 ≤ (a1 : Int) := of_decide_eq_true (by first | (with_reducible assumption) | assumption); have q108 : a1 < (l0_2.length : Int) := of_decide_eq_true (by first | (with_reducible assumption) | assumption); obtain ⟨ad108, e108, hx108_0, hx108_1, hx108_2, hx108_3, hx108_4, hx108_5⟩ := at_T44 HR0_2.out a1 p108 q108; (try rw [← Nbq5.out] at hx108_0); (try rw [← Nbq7.out] at hx108_0); (try rw [← Nbq5.out] at hx108_1); (try rw [← Nbq7.out] at hx108_1); (try rw [← Nbq5.out] at hx108_2); (try rw [← Nbq7.out] at hx108_2); (try rw [← Nbq5.out] at hx108_4); (try rw [← Nbq7.out] at hx108_4); cases e108; replace hx108_0 := (HB.out.cell (World.block_lt_of_cell? w _ hx108_0)).trans hx108_0; replace hx108_1 := (HB.out.cell (World.block_lt_of_cell? w _ hx108_1)).trans hx108_1; replace hx108_2 := (HB.out.cell (World.block_lt_of_cell? w _ hx108_2)).trans hx108_2; replace hx108_3 := (HB.out.cell (World.block_lt_of_cell? w _ hx108_3)).trans hx108_3; replace hx108_4 := (HB.out.cell (World.block_lt_of_cell? w _ hx108_4)).trans hx108_4; replace hx108_5 := (HB.out.cell (World.block_lt_of_cell? w _ hx108_5)).trans hx108_5; replace p108 := eq_true p108; replace q108 := eq_true q108) | ((with_reducible refine gate_dst (N := 5) rfl ?_); refine box_event ?hg (N := 5) ?hd (cs := #[.bool false, .bool false, .bool false, .int .i64 0, .bool false, .int .u8 0]) (t := 44) ?hr ?_; (case hd => rfl); (case hg => rfl); (case hr => first | (go_simp; done) | (go_simp; rfl)); intro gb109 hg w21 hbox hb; have n0_ := Aside0.mk (blk_below (g := gb107) (o := .cells #[.int .i64 a0_0, .int .i64 a0_1, .slice (some ad108) l0_2.length c0_2, .int .i64 a0_3, .bool a0_4, .bool a0_5] 24 (0, 0)) (by (with_reducible repeat apply pK); exact BK107.out) hb); have n1_ := Aside0.mk (below_step bl_ hb); have n2_ := Aside0.mk (hbox); have n3_ := Aside0.mk ((le_new hg (below_size bl_) : w.heap.size ≤ gb109)); have n4_ := Aside0.mk ((le_new hg (below_size bl_) : w.heap.size ≤ gb109)); have n5_ := Aside0.mk ((by rw [hg]; exact Nat.ne_of_lt (blk_lt (g := gb107) (o := .cells #[.int .i64 a0_0, .int .i64 a0_1, .slice (some ad108) l0_2.length c0_2, .int .i64 a0_3, .bool a0_4, .bool a0_5] 24 (0, 0)) (by (with_reducible repeat apply pK); exact BK107.out)) : gb107 ≠ gb109)); have n6_ := Aside0.mk ((by rw [hg]; exact Nat.ne_of_gt (blk_lt (g := gb107) (o := .cells #[.int .i64 a0_0, .int .i64 a0_1, .slice (some ad108) l0_2.length c0_2, .int .i64 a0_3, .bool a0_4, .bool a0_5] 24 (0, 0)) (by (with_reducible repeat apply pK); exact BK107.out)) : gb109 ≠ gb107)); clear BK107; clear HB; have BK107 := n0_; have HB := n1_; have BK109 := n2_; have GW109 := n3_; have GE109 := n4_; have NB107_109 := n5_; have NB109_107 := n6_; clear n0_ n1_ n2_ n3_ n4_ n5_ n6_; clear hb hbox hg; have hnb22 := NB109_107.out; have hnc22 := NB107_109.out; obtain ⟨hcz23_0, hcz23_1, hcz23_2, hcz23_3, hcz23_4, hcz23_5, hfz23_0, hfz23_1, hfz23_2, hfz23_3, hfz23_4, hfz23_5⟩ := cells6 (show w21.heap[gb109]? = some (.cells #[.bool false, .bool false, .bool false, .int .i64 0, .bool false, .int .u8 0] _ (0, 0)) from BK109.out)))
       have n0_ : Aside0 (((((((w21.setCell ⟨gb109, 0, none⟩ (.bool true)).setCell ⟨gb109, 1, none⟩ (.bool false)).setCell ⟨gb109, 2, none⟩ (.bool ((rd_T44 l0_2 a1).f1.f1))).setCell ⟨gb109, 3, none⟩ (.int .i64 ((rd_T44 l0_2 a1).f1.f2))).setCell ⟨gb109, 4, none⟩ (.bool ((rd_T44 l0_2 a1).f1.f3))).setCell ⟨gb109, 5, none⟩ (.int .u8 ((rd_T44 l0_2 a1).f2))).heap[gb107]? = some (.cells #[.int .i64 a0_0, .int .i64 a0_1, .slice (some ad108) l0_2.length c0_2, .int .i64 a0_3, .bool a0_4, .bool a0_5] 24 (0, 0))) := ⟨by (with_reducible repeat apply pK); refine blk_far ?_ NB107_109.out _; (with_reducible repeat apply pK); refine blk_far ?_ NB107_109.out _; (with_reducible repeat apply pK); refine blk_far ?_ NB107_109.out _; (with_reducible repeat apply pK); refine blk_far ?_ NB107_109.out _; (with_reducible repeat apply pK); refine blk_far ?_ NB107_109.out _; (with_reducible repeat apply pK); refine blk_far ?_ NB107_109.out _; (with_reducible repeat apply pK); exact BK107.out⟩
       have n1_ : Aside0 (((((((w21.setCell ⟨gb109, 0, none⟩ (.bool true)).setCell ⟨gb109, 1, none⟩ (.bool false)).setCell ⟨gb109, 2, none⟩ (.bool ((rd_T44 l0_2 a1).f1.f1))).setCell ⟨gb109, 3, none⟩ (.int .i64 ((rd_T44 l0_2 a1).f1.f2))).setCell ⟨gb109, 4, none⟩ (.bool ((rd_T44 l0_2 a1).f1.f3))).setCell ⟨gb109, 5, none⟩ (.int .u8 ((rd_T44 l0_2 a1).f2))).heap[gb109]? = some (.cells #[.bool true, .bool false, .bool ((rd_T44 l0_2 a1).f1.f1), .int .i64 ((rd_T44 l0_2 a1).f1.f2), .bool ((rd_T44 l0_2 a1).f1.f3), .int .u8 ((rd_T44 l0_2 a1).f2)] 44 (0, 0))) := ⟨by (with_reducible repeat apply pK); refine blk_put (cs := #[.bool true, .bool false, .bool ((rd_T44 l0_2 a1).f1.f1), .int .i64 ((rd_T44 l0_2 a1).f1.f2), .bool ((rd_T44 l0_2 a1).f1.f3), .int .u8 0]) ?_ 5 _ rfl; (with_reducible repeat apply pK); refine blk_put (cs := #[.bool true, .bool false, .bool ((rd_T44 l0_2 a1).f1.f1), .int .i64 ((rd_T44 l0_2 a1).f1.f2), .bool false, .int .u8 0]) ?_ 4 _ rfl; (with_reducible repeat apply pK); refine blk_put (cs := #[.bool true, .bool false, .bool ((rd_T44 l0_2 a1).f1.f1), .int .i64 0, .bool false, .int .u8 0]) ?_ 3 _ rfl; (with_reducible repeat apply pK); refine blk_put (cs := #[.bool true, .bool false, .bool false, .int .i64 0, .bool false, .int .u8 0]) ?_ 2 _ rfl; (with_reducible repeat apply pK); refine blk_put (cs := #[.bool true, .bool false, .bool false, .int .i64 0, .bool false, .int .u8 0]) ?_ 1 _ rfl; (with_reducible repeat apply pK); refine blk_put (cs := #[.bool false, .bool false, .bool false, .int .i64 0, .bool false, .int .u8 0]) ?_ 0 _ rfl; (with_reducible repeat apply pK); exact BK109.out⟩
       have n2_ : Aside0 (Below w.heap.size w ((((((w21.setCell ⟨gb109, 0, none⟩ (.bool true)).setCell ⟨gb109, 1, none⟩ (.bool false)).setCell ⟨gb109, 2, none⟩ (.bool ((rd_T44 l0_2 a1).f1.f1))).setCell ⟨gb109, 3, none⟩ (.int .i64 ((rd_T44 l0_2 a1).f1.f2))).setCell ⟨gb109, 4, none⟩ (.bool ((rd_T44 l0_2 a1).f1.f3))).setCell ⟨gb109, 5, none⟩ (.int .u8 ((rd_T44 l0_2 a1).f2)))) := ⟨bl_⟩
       (try clear BK107)
       (try clear BK109)
       (try clear HB)
       generalize ((((((w21.setCell ⟨gb109, 0, none⟩ (.bool true)).setCell ⟨gb109, 1, none⟩ (.bool false)).setCell ⟨gb109, 2, none⟩ (.bool ((rd_T44 l0_2 a1).f1.f1))).setCell ⟨gb109, 3, none⟩ (.int .i64 ((rd_T44 l0_2 a1).f1.f2))).setCell ⟨gb109, 4, none⟩ (.bool ((rd_T44 l0_2 a1).f1.f3))).setCell ⟨gb109, 5, none⟩ (.int .u8 ((rd_T44 l0_2 a1).f2))) = w24 at n0_ n1_ n2_ ⊢
       have BK107 := n0_
       have BK109 := n1_
       have HB := n2_
       clear n0_ n1_ n2_
       have n0_ := Aside0.mk (blk_drew BK107.out)
       have n1_ := Aside0.mk (blk_drew BK109.out)
       have n2_ := Aside0.mk (below_drew1 HB.out)
       clear BK107
       clear BK109
       clear HB
       have BK107 := n0_
       have BK109 := n1_
       have HB := n2_
       clear n0_ n1_ n2_
       have p111 : 0 ≤ (t110 : Int) := of_decide_eq_true (by first | (with_reducible assumption) | assumption)
       have q111 : t110 < (l0_2.length : Int) := of_decide_eq_true (by first | (with_reducible assumption) | assumption)
       obtain ⟨ad111, e111, hx111_0, hx111_1, hx111_2, hx111_3, hx111_4, hx111_5⟩ := at_T44 HR0_2.out t110 p111 q111
       have hw111_5 := hx111_5
       (try rw [← Nbq5.out] at hw111_5)
       (try rw [← Nbq7.out] at hw111_5)
       have hw111_4 := hx111_4
       (try rw [← Nbq5.out] at hw111_4)
       (try rw [← Nbq7.out] at hw111_4)
       have hw111_3 := hx111_3
       (try rw [← Nbq5.out] at hw111_3)
       (try rw [← Nbq7.out] at hw111_3)
       have hw111_2 := hx111_2
       (try rw [← Nbq5.out] at hw111_2)
       (try rw [← Nbq7.out] at hw111_2)
       have hw111_1 := hx111_1
       (try rw [← Nbq5.out] at hw111_1)
       (try rw [← Nbq7.out] at hw111_1)
       have hw111_0 := hx111_0
       (try rw [← Nbq5.out] at hw111_0)
       (try rw [← Nbq7.out] at hw111_0)
       (try rw [← Nbq5.out] at hx111_0)
       (try rw [← Nbq7.out] at hx111_0)
       (try rw [← Nbq5.out] at hx111_1)
       (try rw [← Nbq7.out] at hx111_1)
       (try rw [← Nbq5.out] at hx111_2)
       (try rw [← Nbq7.out] at hx111_2)
       (try rw [← Nbq5.out] at hx111_4)
       (try rw [← Nbq7.out] at hx111_4)
       obtain rfl : ad108 = ad111 := (by injection e111)
       replace hx111_0 := (HB.out.cell (World.block_lt_of_cell? w _ hx111_0)).trans hx111_0
       replace hx111_1 := (HB.out.cell (World.block_lt_of_cell? w _ hx111_1)).trans hx111_1
       replace hx111_2 := (HB.out.cell (World.block_lt_of_cell? w _ hx111_2)).trans hx111_2
       replace hx111_3 := (HB.out.cell (World.block_lt_of_cell? w _ hx111_3)).trans hx111_3
       replace hx111_4 := (HB.out.cell (World.block_lt_of_cell? w _ hx111_4)).trans hx111_4
       replace hx111_5 := (HB.out.cell (World.block_lt_of_cell? w _ hx111_5)).trans hx111_5
       replace p111 := eq_true p111
       replace q111 := eq_true q111
       refine start_ (n := 20) (S := fun w' => w'.cell? ⟨gb109, 0, none⟩ = some (.bool true) ∧ w'.cell? ⟨gb109, 1, none⟩ = some (.bool false) ∧ w'.cell? ⟨gb109, 2, none⟩ = some (.bool ((rd_T44 l0_2 a1).f1.f1)) ∧ w'.cell? ⟨gb109, 3, none⟩ = some (.int .i64 ((rd_T44 l0_2 a1).f1.f2)) ∧ w'.cell? ⟨gb109, 4, none⟩ = some (.bool ((rd_T44 l0_2 a1).f1.f3)) ∧ w'.cell? ⟨gb109, 5, none⟩ = some (.int .u8 ((rd_T44 l0_2 a1).f2)) ∧ w'.cell? ⟨gb107, 0, none⟩ = some (.int .i64 a0_0) ∧ w'.cell? ⟨gb107, 1, none⟩ = some (.int .i64 a0_1) ∧ w'.cell? ⟨gb107, 2, none⟩ = some (.slice (some ad108) l0_2.length c0_2) ∧ w'.cell? ⟨gb107, 3, none⟩ = some (.int .i64 a0_3) ∧ w'.cell? ⟨gb107, 4, none⟩ = some (.bool a0_4) ∧ w'.cell? ⟨gb107, 5, none⟩ = some (.bool a0_5) ∧ w'.cell? (ad108.add ((t110).toNat * 6)) = some (.bool ((rd_T44 l0_2 t110).f0)) ∧ w'.cell? ⟨(ad108.add ((t110).toNat * 6)).block, (ad108.add ((t110).toNat * 6)).off + 1, none⟩ = some (.bool ((rd_T44 l0_2 t110).f1.f0)) ∧ w'.cell? ⟨(ad108.add ((t110).toNat * 6)).block, (ad108.add ((t110).toNat * 6)).off + 2, none⟩ = some (.bool ((rd_T44 l0_2 t110).f1.f1)) ∧ w'.cell? ⟨(ad108.add ((t110).toNat * 6)).block, (ad108.add ((t110).toNat * 6)).off + 3, none⟩ = some (.int .i64 ((rd_T44 l0_2 t110).f1.f2)) ∧ w'.cell? ⟨(ad108.add ((t110).toNat * 6)).block, (ad108.add ((t110).toNat * 6)).off + 4, none⟩ = some (.bool ((rd_T44 l0_2 t110).f1.f3)) ∧ w'.cell? ⟨(ad108.add ((t110).toNat * 6)).block, (ad108.add ((t110).toNat * 6)).off + 5, none⟩ = some (.int .u8 ((rd_T44 l0_2 t110).f2))) (ds := []) #[false, false, false, false, false, false, false, false, false, false, false, false, false, false, false, false, false, false, false, false] (by kernel_rfl) rfl rfl ⟨(blk_cell BK109.out 0).trans rfl, (blk_cell BK109.out 1).trans rfl, (blk_cell BK109.out 2).trans rfl, (blk_cell BK109.out 3).trans rfl, (blk_cell BK109.out 4).trans rfl, (blk_cell BK109.out 5).trans rfl, (blk_cell BK107.out 0).trans rfl, (blk_cell BK107.out 1).trans rfl, (blk_cell BK107.out 2).trans rfl, (blk_cell BK107.out 3).trans rfl, (blk_cell BK107.out 4).trans rfl, (blk_cell BK107.out 5).trans rfl, ((HB.out.cell (World.block_lt_of_cell? w _ hw111_0)).trans hw111_0), ((HB.out.cell (World.block_lt_of_cell? w _ hw111_1)).trans hw111_1), ((HB.out.cell (World.block_lt_of_cell? w _ hw111_2)).trans hw111_2), ((HB.out.cell (World.block_lt_of_cell? w _ hw111_3)).trans hw111_3), ((HB.out.cell (World.block_lt_of_cell? w _ hw111_4)).trans hw111_4), ((HB.out.cell (World.block_lt_of_cell? w _ hw111_5)).trans hw111_5)⟩ (fun hHeld => ?_); refine with_tabW field_enters.tab2 field_enters.bits2 (fun HT_ HW_ => ?_)
       generalize w24.drew = w25 at BK107 BK109 HB hx111_0 hx111_1 hx111_2 hx111_3 hx111_4 hx111_5 hHeld ⊢
       refine pure_ (i := 0) (N := some 11) (v := ?_) (a' := ?_) #[true, false, false, false, false, false, false, false, false, false, false, false, false, false, false, false, false, false, false, false] rfl rfl (any_of HT_.out (by kernel_rfl)) (fun _ _ _ h => h) (Or.inl ⟨by rfl, ?_⟩) ?_ ?_
       rotate_left
       ·intro w'
        go_simp
        with_reducible rfl
       rotate_left
       ·simp only [Act.put, List.setIfInBounds_toArray, List.set_cons_zero, List.set_cons_succ, i64_w, i32_w]
        rfl
       refine take_ (i := 1) (N := some 12) (v := ?_) (a' := ?_) #[true, true, false, false, false, false, false, false, false, false, false, false, false, false, false, false, false, false, false, false] rfl rfl (take_ofW HT_.out HW_.out (by kernel_rfl)) (fun _ _ _ h => h) (Or.inl ⟨by rfl, ?_⟩) hHeld ?_ ?_
       rotate_left
       ·rintro w' ⟨s0, s1, s2, s3, s4, s5, s6, s7, s8, s9, s10, s11, s12, s13, s14, s15, s16, s17⟩
        go_simp
        with_reducible rfl
       rotate_left
       ·simp only [Act.put, List.setIfInBounds_toArray, List.set_cons_zero, List.set_cons_succ, i64_w, i32_w]
        rfl
       refine pure_ (i := 2) (N := some 13) (v := ?_) (a' := ?_) #[true, true, true, false, false, false, false, false, false, false, false, false, false, false, false, false, false, false, false, false] rfl rfl (any_of HT_.out (by kernel_rfl)) (fun _ _ _ h => h) (Or.inl ⟨by rfl, ?_⟩) ?_ ?_
       rotate_left
       ·intro w'
        go_simp
        with_reducible rfl
       rotate_left
       ·simp only [Act.put, List.setIfInBounds_toArray, List.set_cons_zero, List.set_cons_succ, i64_w, i32_w]
        rfl
       refine pure_ (i := 3) (N := some 14) (v := ?_) (a' := ?_) #[true, true, true, true, false, false, false, false, false, false, false, false, false, false, false, false, false, false, false, false] rfl rfl (any_of HT_.out (by kernel_rfl)) (fun _ _ _ h => h) (Or.inl ⟨by rfl, ?_⟩) ?_ ?_
       rotate_left
       ·intro w'
        go_simp
        with_reducible rfl
       rotate_left
       ·simp only [Act.put, List.setIfInBounds_toArray, List.set_cons_zero, List.set_cons_succ, i64_w, i32_w]
        rfl
       refine pure_ (i := 4) (N := some 15) (v := ?_) (a' := ?_) #[true, true, true, true, true, false, false, false, false, false, false, false, false, false, false, false, false, false, false, false] rfl rfl (any_of HT_.out (by kernel_rfl)) (fun _ _ _ h => h) (Or.inl ⟨by rfl, ?_⟩) ?_ ?_
       rotate_left
       ·intro w'
        go_simp
        with_reducible rfl
       rotate_left
       ·simp only [Act.put, List.setIfInBounds_toArray, List.set_cons_zero, List.set_cons_succ, i64_w, i32_w]
        rfl
       refine take_ (i := 5) (N := some 16) (v := ?_) (a' := ?_) #[true, true, true, true, true, true, false, false, false, false, false, false, false, false, false, false, false, false, false, false] rfl rfl (take_ofW HT_.out HW_.out (by kernel_rfl)) (fun _ _ _ h => h) (Or.inl ⟨by rfl, ?_⟩) hHeld ?_ ?_
       rotate_left
       ·rintro w' ⟨s0, s1, s2, s3, s4, s5, s6, s7, s8, s9, s10, s11, s12, s13, s14, s15, s16, s17⟩
        go_simp
        with_reducible rfl
       rotate_left
       ·simp only [Act.put, List.setIfInBounds_toArray, List.set_cons_zero, List.set_cons_succ, i64_w, i32_w]
        rfl
       refine pure_ (i := 6) (N := some 17) (v := ?_) (a' := ?_) #[true, true, true, true, true, true, true, false, false, false, false, false, false, false, false, false, false, false, false, false] rfl rfl (any_of HT_.out (by kernel_rfl)) (fun _ _ _ h => h) (Or.inl ⟨by rfl, ?_⟩) ?_ ?_
       rotate_left
       ·intro w'
        go_simp
        with_reducible rfl
       rotate_left
       ·simp only [Act.put, List.setIfInBounds_toArray, List.set_cons_zero, List.set_cons_succ, i64_w, i32_w]
        rfl
       refine pure_ (i := 7) (N := some 18) (v := ?_) (a' := ?_) #[true, true, true, true, true, true, true, true, false, false, false, false, false, false, false, false, false, false, false, false] rfl rfl (any_of HT_.out (by kernel_rfl)) (fun _ _ _ h => h) (Or.inl ⟨by rfl, ?_⟩) ?_ ?_
       rotate_left
       ·intro w'
        go_simp
        with_reducible rfl
       rotate_left
       ·simp only [Act.put, List.setIfInBounds_toArray, List.set_cons_zero, List.set_cons_succ, i64_w, i32_w]
        rfl
       refine pure_ (i := 8) (N := some 19) (v := ?_) (a' := ?_) #[true, true, true, true, true, true, true, true, true, false, false, false, false, false, false, false, false, false, false, false] rfl rfl (any_of HT_.out (by kernel_rfl)) (fun _ _ _ h => h) (Or.inl ⟨by rfl, ?_⟩) ?_ ?_
       rotate_left
       ·intro w'
        go_simp
        with_reducible rfl
       rotate_left
       ·simp only [Act.put, List.setIfInBounds_toArray, List.set_cons_zero, List.set_cons_succ, i64_w, i32_w]
        rfl
       refine pure_ (i := 9) (N := some 20) (v := ?_) (a' := ?_) #[true, true, true, true, true, true, true, true, true, true, false, false, false, false, false, false, false, false, false, false] rfl rfl (any_of HT_.out (by kernel_rfl)) (fun _ _ _ h => h) (Or.inl ⟨by rfl, ?_⟩) ?_ ?_
       rotate_left
       ·intro w'
        go_simp
        with_reducible rfl
       rotate_left
       ·simp only [Act.put, List.setIfInBounds_toArray, List.set_cons_zero, List.set_cons_succ, i64_w, i32_w]
        rfl
       refine pure_ (i := 12) (N := some 23) (v := ?_) (a' := ?_) #[true, true, true, true, true, true, true, true, true, true, false, false, true, false, false, false, false, false, false, false] rfl rfl (any_of HT_.out (by kernel_rfl)) (fun _ _ _ h => h) (Or.inl ⟨by rfl, ?_⟩) ?_ ?_
       rotate_left
       ·intro w'
        go_simp
        with_reducible rfl
       rotate_left
       ·simp only [Act.put, List.setIfInBounds_toArray, List.set_cons_zero, List.set_cons_succ, i64_w, i32_w]
        rfl
       refine take_ (i := 10) (N := some 21) (v := ?_) (a' := ?_) #[true, true, true, true, true, true, true, true, true, true, true, false, true, false, false, false, false, false, false, false] rfl rfl (take_ofW HT_.out HW_.out (by kernel_rfl)) (fun _ _ _ h => h) (Or.inl ⟨by rfl, ?_⟩) hHeld ?_ ?_
       rotate_left
       ·rintro w' ⟨s0, s1, s2, s3, s4, s5, s6, s7, s8, s9, s10, s11, s12, s13, s14, s15, s16, s17⟩
        go_simp
        with_reducible rfl
       rotate_left
       ·simp only [Act.put, List.setIfInBounds_toArray, List.set_cons_zero, List.set_cons_succ, i64_w, i32_w]
        rfl
       refine take_ (i := 11) (N := some 22) (v := ?_) (a' := ?_) #[true, true, true, true, true, true, true, true, true, true, true, true, true, false, false, false, false, false, false, false] rfl rfl (take_ofW HT_.out HW_.out (by kernel_rfl)) (fun _ _ _ h => h) (Or.inl ⟨by rfl, ?_⟩) hHeld ?_ ?_
       rotate_left
       ·rintro w' ⟨s0, s1, s2, s3, s4, s5, s6, s7, s8, s9, s10, s11, s12, s13, s14, s15, s16, s17⟩
        go_simp
        with_reducible rfl
       rotate_left
       ·simp only [Act.put, List.setIfInBounds_toArray, List.set_cons_zero, List.set_cons_succ, i64_w, i32_w]
        rfl
       refine one_ (i := 13) (N := some 24) #[true, true, true, true, true, true, true, true, true, true, true, true, true, true, false, false, false, false, false, false] rfl rfl (one_of HT_.out (by kernel_rfl)) (by decide) (fun K hK => ?_)
       refine goes_ Tryd.func29 (by kernel_rfl) rfl #[.agg #[.int .i64 a0_0, .int .i64 a0_1, .slice (some ad108) l0_2.length c0_2, .int .i64 a0_3, .bool a0_4, .bool a0_5], .int .i64 a1, .int .i64 1] (by rfl) rfl rfl ag_ ?_
       with_reducible refine (grid_On.calls a0_0 a0_1 _ _ l0_2 a0_3 a0_4 a0_5 a1 1 t110 _ ?side1 ?side2 A16.out).mono ?_
       (case side1 => repeat (first | exact (Kd.C_below HR0_2.out HB.out) | (with_reducible apply pC)))
       (case side2 => exact HC0_2.out)
       rintro e w26 ⟨rfl, hb⟩
       refine ⟨_, rfl, ?_⟩
       have n0_ := Aside0.mk (blk_below (g := gb107) (o := .cells #[.int .i64 a0_0, .int .i64 a0_1, .slice (some ad108) l0_2.length c0_2, .int .i64 a0_3, .bool a0_4, .bool a0_5] 24 (0, 0)) (by (with_reducible repeat apply pK); exact BK107.out) hb)
       have n1_ := Aside0.mk (blk_below (g := gb109) (o := .cells #[.bool true, .bool false, .bool ((rd_T44 l0_2 a1).f1.f1), .int .i64 ((rd_T44 l0_2 a1).f1.f2), .bool ((rd_T44 l0_2 a1).f1.f3), .int .u8 ((rd_T44 l0_2 a1).f2)] 44 (0, 0)) (by (with_reducible repeat apply pK); exact BK109.out) hb)
       have n2_ := Aside0.mk (below_step bl_ hb)
       clear BK107
       clear BK109
       clear HB
       have BK107 := n0_
       have BK109 := n1_
       have HB := n2_
       clear n0_ n1_ n2_
       (try clear hb)
       (try clear hb2)
       (try clear hk)
       (try clear hi)
       refine hK.out _ _ ⟨(blk_cell BK109.out 0).trans rfl, (blk_cell BK109.out 1).trans rfl, (blk_cell BK109.out 2).trans rfl, (blk_cell BK109.out 3).trans rfl, (blk_cell BK109.out 4).trans rfl, (blk_cell BK109.out 5).trans rfl, (blk_cell BK107.out 0).trans rfl, (blk_cell BK107.out 1).trans rfl, (blk_cell BK107.out 2).trans rfl, (blk_cell BK107.out 3).trans rfl, (blk_cell BK107.out 4).trans rfl, (blk_cell BK107.out 5).trans rfl, ((HB.out.cell (World.block_lt_of_cell? w _ hw111_0)).trans hw111_0), ((HB.out.cell (World.block_lt_of_cell? w _ hw111_1)).trans hw111_1), ((HB.out.cell (World.block_lt_of_cell? w _ hw111_2)).trans hw111_2), ((HB.out.cell (World.block_lt_of_cell? w _ hw111_3)).trans hw111_3), ((HB.out.cell (World.block_lt_of_cell? w _ hw111_4)).trans hw111_4), ((HB.out.cell (World.block_lt_of_cell? w _ hw111_5)).trans hw111_5)⟩ (fun hHeld => ?_)
       clear hK K
       refine norm_ (a' := ?_) ?_ ?_
       rotate_left
       ·show Act.put _ (some 24) _ = _
        simp only [Act.put, List.setIfInBounds_toArray, List.set_cons_zero, List.set_cons_succ, i64_w, i32_w]
        rfl
       refine pure_ (i := 14) (N := some 25) (v := ?_) (a' := ?_) #[true, true, true, true, true, true, true, true, true, true, true, true, true, true, true, false, false, false, false, false] rfl rfl (any_of HT_.out (by kernel_rfl)) (fun _ _ _ h => h) (Or.inl ⟨by rfl, ?_⟩) ?_ ?_
       rotate_left
       ·intro w'
        go_simp
        with_reducible rfl
       rotate_left
       ·simp only [Act.put, List.setIfInBounds_toArray, List.set_cons_zero, List.set_cons_succ, i64_w, i32_w]
        rfl
       refine pure_ (i := 15) (N := some 26) (v := ?_) (a' := ?_) #[true, true, true, true, true, true, true, true, true, true, true, true, true, true, true, true, false, false, false, false] rfl rfl (any_of HT_.out (by kernel_rfl)) (fun _ _ _ h => h) (Or.inl ⟨by rfl, ?_⟩) ?_ ?_
       rotate_left
       ·intro w'
        go_simp
        with_reducible rfl
       rotate_left
       ·simp only [Act.put, List.setIfInBounds_toArray, List.set_cons_zero, List.set_cons_succ, i64_w, i32_w]
        rfl
       refine take_ (i := 16) (N := some 27) (v := ?_) (a' := ?_) #[true, true, true, true, true, true, true, true, true, true, true, true, true, true, true, true, true, false, false, false] rfl rfl (take_ofW HT_.out HW_.out (by kernel_rfl)) (fun _ _ _ h => h) (Or.inl ⟨by rfl, ?_⟩) hHeld ?_ ?_
       rotate_left
       ·rintro w' ⟨s0, s1, s2, s3, s4, s5, s6, s7, s8, s9, s10, s11, s12, s13, s14, s15, s16, s17⟩
        go_simp
        with_reducible rfl
       rotate_left
       ·simp only [Act.put, List.setIfInBounds_toArray, List.set_cons_zero, List.set_cons_succ, i64_w, i32_w]
        rfl
       refine pure_ (i := 17) (N := some 28) (v := ?_) (a' := ?_) #[true, true, true, true, true, true, true, true, true, true, true, true, true, true, true, true, true, true, false, false] rfl rfl (any_of HT_.out (by kernel_rfl)) (fun _ _ _ h => h) (Or.inl ⟨by rfl, ?_⟩) ?_ ?_
       rotate_left
       ·intro w'
        go_simp
        with_reducible rfl
       rotate_left
       ·simp only [Act.put, List.setIfInBounds_toArray, List.set_cons_zero, List.set_cons_succ, i64_w, i32_w]
        rfl
       refine pure_ (i := 18) (N := some 29) (v := ?_) (a' := ?_) #[true, true, true, true, true, true, true, true, true, true, true, true, true, true, true, true, true, true, true, false] rfl rfl (any_of HT_.out (by kernel_rfl)) (fun _ _ _ h => h) (Or.inl ⟨by rfl, ?_⟩) ?_ ?_
       rotate_left
       ·intro w'
        go_simp
        with_reducible rfl
       rotate_left
       ·simp only [Act.put, List.setIfInBounds_toArray, List.set_cons_zero, List.set_cons_succ, i64_w, i32_w]
        rfl
       refine pure_ (i := 19) (N := some 4) (v := ?_) (a' := ?_) #[true, true, true, true, true, true, true, true, true, true, true, true, true, true, true, true, true, true, true, true] rfl rfl (any_of HT_.out (by kernel_rfl)) (fun _ _ _ h => h) (Or.inl ⟨by rfl, ?_⟩) ?_ ?_
       rotate_left
       ·intro w'
        go_simp
        with_reducible rfl
       rotate_left
       ·simp only [Act.put, List.setIfInBounds_toArray, List.set_cons_zero, List.set_cons_succ, i64_w, i32_w]
        rfl
       refine done_ (done_of HT_.out (by kernel_rfl)) ?_
       try go_wp2
       go_ret
       exact ⟨by first | rfl | (simp [errW_none, errW_some] <;> rfl) | (simp [*, errW_none, errW_some] <;> rfl), bl_⟩
      ·rw [if_neg c18] at H
       exact absurd H (by simp)
     ·rw [if_neg c17] at H
      exact absurd H (by simp)
   ·replace c6 := Bool.eq_false_iff.mpr c6
    subst c6
    have H1 : (some false) = some r := by rw [if_neg (show ¬ (false = true) by decide)] at H; exact H
    clear H
    have H := H1
    clear H1
    obtain rfl := Option.some.inj H
    go_enter Tryd.func48, Tryd.ntmps48
    try go_wp2_with (first | ((with_reducible refine gate_dst (N := 2) rfl ?_); refine box_event ?hg (N := 2) ?hd (cs := #[.int .i64 a0_0, .int .i64 a0_1, .slice A0_2 l0_2.length c0_2, .int .i64 a0_3, .bool a0_4, .bool a0_5]) (t := 24) ?hr ?_; (case hd => rfl); (case hg => rfl); (case hr => first | (go_simp; done) | (go_simp; rfl)); intro gb107 hg w27 hbox hb; have n0_ := Aside0.mk (below_step bl_ hb); have n1_ := Aside0.mk (hbox); have n2_ := Aside0.mk ((le_new hg (below_size bl_) : w.heap.size ≤ gb107)); have n3_ := Aside0.mk ((le_new hg (below_size bl_) : w.heap.size ≤ gb107)); clear HB; have HB := n0_; have BK107 := n1_; have GW107 := n2_; have GE107 := n3_; clear n0_ n1_ n2_ n3_; clear hb hbox hg; obtain ⟨hcz28_0, hcz28_1, hcz28_2, hcz28_3, hcz28_4, hcz28_5, hfz28_0, hfz28_1, hfz28_2, hfz28_3, hfz28_4, hfz28_5⟩ := cells6 (show w27.heap[gb107]? = some (.cells #[.int .i64 a0_0, .int .i64 a0_1, .slice A0_2 l0_2.length c0_2, .int .i64 a0_3, .bool a0_4, .bool a0_5] _ (0, 0)) from BK107.out); have p108 : 0 ≤ (a1 : Int) := of_decide_eq_true (by first | (with_reducible assumption) | assumption); have q108 : a1 < (l0_2.length : Int) := of_decide_eq_true (by first | (with_reducible assumption) | assumption); obtain ⟨ad108, e108, hx108_0, hx108_1, hx108_2, hx108_3, hx108_4, hx108_5⟩ := at_T44 HR0_2.out a1 p108 q108; (try rw [← Nbq5.out] at hx108_0); (try rw [← Nbq5.out] at hx108_1); (try rw [← Nbq5.out] at hx108_2); (try rw [← Nbq5.out] at hx108_4); cases e108; replace hx108_0 := (HB.out.cell (World.block_lt_of_cell? w _ hx108_0)).trans hx108_0; replace hx108_1 := (HB.out.cell (World.block_lt_of_cell? w _ hx108_1)).trans hx108_1; replace hx108_2 := (HB.out.cell (World.block_lt_of_cell? w _ hx108_2)).trans hx108_2; replace hx108_3 := (HB.out.cell (World.block_lt_of_cell? w _ hx108_3)).trans hx108_3; replace hx108_4 := (HB.out.cell (World.block_lt_of_cell? w _ hx108_4)).trans hx108_4; replace hx108_5 := (HB.out.cell (World.block_lt_of_cell? w _ hx108_5)).trans hx108_5; replace p108 := eq_true p108; replace q108 := eq_true q108) | ((with_reducible refine gate_dst (N := 5) rfl ?_); refine box_event ?hg (N := 5) ?hd (cs := #[.bool false, .bool false, .bool false, .int .i64 0, .bool false, .int .u8 0]) (t := 44) ?hr ?_; (case hd => rfl); (case hg => rfl); (case hr => first | (go_simp; done) | (go_simp; rfl)); intro gb109 hg w29 hbox hb; have n0_ := Aside0.mk (blk_below (g := gb107) (o := .cells #[.int .i64 a0_0, .int .i64 a0_1, .slice (some ad108) l0_2.length c0_2, .int .i64 a0_3, .bool a0_4, .bool a0_5] 24 (0, 0)) (by (with_reducible repeat apply pK); exact BK107.out) hb); have n1_ := Aside0.mk (below_step bl_ hb); have n2_ := Aside0.mk (hbox); have n3_ := Aside0.mk ((le_new hg (below_size bl_) : w.heap.size ≤ gb109)); have n4_ := Aside0.mk ((le_new hg (below_size bl_) : w.heap.size ≤ gb109)); have n5_ := Aside0.mk ((by rw [hg]; exact Nat.ne_of_lt (blk_lt (g := gb107) (o := .cells #[.int .i64 a0_0, .int .i64 a0_1, .slice (some ad108) l0_2.length c0_2, .int .i64 a0_3, .bool a0_4, .bool a0_5] 24 (0, 0)) (by (with_reducible repeat apply pK); exact BK107.out)) : gb107 ≠ gb109)); have n6_ := Aside0.mk ((by rw [hg]; exact Nat.ne_of_gt (blk_lt (g := gb107) (o := .cells #[.int .i64 a0_0, .int .i64 a0_1, .slice (some ad108) l0_2.length c0_2, .int .i64 a0_3, .bool a0_4, .bool a0_5] 24 (0, 0)) (by (with_reducible repeat apply pK); exact BK107.out)) : gb109 ≠ gb107)); clear BK107; clear HB; have BK107 := n0_; have HB := n1_; have BK109 := n2_; have GW109 := n3_; have GE109 := n4_; have NB107_109 := n5_; have NB109_107 := n6_; clear n0_ n1_ n2_ n3_ n4_ n5_ n6_; clear hb hbox hg; have hnb30 := NB109_107.out; have hnc30 := NB107_109.out; obtain ⟨hcz31_0, hcz31_1, hcz31_2, hcz31_3, hcz31_4, hcz31_5, hfz31_0, hfz31_1, hfz31_2, hfz31_3, hfz31_4, hfz31_5⟩ := cells6 (show w29.heap[gb109]? = some (.cells #[.bool false, .bool false, .bool false, .int .i64 0, .bool false, .int .u8 0] _ (0, 0)) from BK109.out)))
    have n0_ : Aside0 (((((((w29.setCell ⟨gb109, 0, none⟩ (.bool false)).setCell ⟨gb109, 1, none⟩ (.bool ((rd_T44 l0_2 a1).f1.f0))).setCell ⟨gb109, 2, none⟩ (.bool ((rd_T44 l0_2 a1).f1.f1))).setCell ⟨gb109, 3, none⟩ (.int .i64 ((rd_T44 l0_2 a1).f1.f2))).setCell ⟨gb109, 4, none⟩ (.bool ((rd_T44 l0_2 a1).f1.f3))).setCell ⟨gb109, 5, none⟩ (.int .u8 ((rd_T44 l0_2 a1).f2))).heap[gb107]? = some (.cells #[.int .i64 a0_0, .int .i64 a0_1, .slice (some ad108) l0_2.length c0_2, .int .i64 a0_3, .bool a0_4, .bool a0_5] 24 (0, 0))) := ⟨by (with_reducible repeat apply pK); refine blk_far ?_ NB107_109.out _; (with_reducible repeat apply pK); refine blk_far ?_ NB107_109.out _; (with_reducible repeat apply pK); refine blk_far ?_ NB107_109.out _; (with_reducible repeat apply pK); refine blk_far ?_ NB107_109.out _; (with_reducible repeat apply pK); refine blk_far ?_ NB107_109.out _; (with_reducible repeat apply pK); refine blk_far ?_ NB107_109.out _; (with_reducible repeat apply pK); exact BK107.out⟩
    have n1_ : Aside0 (((((((w29.setCell ⟨gb109, 0, none⟩ (.bool false)).setCell ⟨gb109, 1, none⟩ (.bool ((rd_T44 l0_2 a1).f1.f0))).setCell ⟨gb109, 2, none⟩ (.bool ((rd_T44 l0_2 a1).f1.f1))).setCell ⟨gb109, 3, none⟩ (.int .i64 ((rd_T44 l0_2 a1).f1.f2))).setCell ⟨gb109, 4, none⟩ (.bool ((rd_T44 l0_2 a1).f1.f3))).setCell ⟨gb109, 5, none⟩ (.int .u8 ((rd_T44 l0_2 a1).f2))).heap[gb109]? = some (.cells #[.bool false, .bool ((rd_T44 l0_2 a1).f1.f0), .bool ((rd_T44 l0_2 a1).f1.f1), .int .i64 ((rd_T44 l0_2 a1).f1.f2), .bool ((rd_T44 l0_2 a1).f1.f3), .int .u8 ((rd_T44 l0_2 a1).f2)] 44 (0, 0))) := ⟨by (with_reducible repeat apply pK); refine blk_put (cs := #[.bool false, .bool ((rd_T44 l0_2 a1).f1.f0), .bool ((rd_T44 l0_2 a1).f1.f1), .int .i64 ((rd_T44 l0_2 a1).f1.f2), .bool ((rd_T44 l0_2 a1).f1.f3), .int .u8 0]) ?_ 5 _ rfl; (with_reducible repeat apply pK); refine blk_put (cs := #[.bool false, .bool ((rd_T44 l0_2 a1).f1.f0), .bool ((rd_T44 l0_2 a1).f1.f1), .int .i64 ((rd_T44 l0_2 a1).f1.f2), .bool false, .int .u8 0]) ?_ 4 _ rfl; (with_reducible repeat apply pK); refine blk_put (cs := #[.bool false, .bool ((rd_T44 l0_2 a1).f1.f0), .bool ((rd_T44 l0_2 a1).f1.f1), .int .i64 0, .bool false, .int .u8 0]) ?_ 3 _ rfl; (with_reducible repeat apply pK); refine blk_put (cs := #[.bool false, .bool ((rd_T44 l0_2 a1).f1.f0), .bool false, .int .i64 0, .bool false, .int .u8 0]) ?_ 2 _ rfl; (with_reducible repeat apply pK); refine blk_put (cs := #[.bool false, .bool false, .bool false, .int .i64 0, .bool false, .int .u8 0]) ?_ 1 _ rfl; (with_reducible repeat apply pK); refine blk_put (cs := #[.bool false, .bool false, .bool false, .int .i64 0, .bool false, .int .u8 0]) ?_ 0 _ rfl; (with_reducible repeat apply pK); exact BK109.out⟩
    have n2_ : Aside0 (Below w.heap.size w ((((((w29.setCell ⟨gb109, 0, none⟩ (.bool false)).setCell ⟨gb109, 1, none⟩ (.bool ((rd_T44 l0_2 a1).f1.f0))).setCell ⟨gb109, 2, none⟩ (.bool ((rd_T44 l0_2 a1).f1.f1))).setCell ⟨gb109, 3, none⟩ (.int .i64 ((rd_T44 l0_2 a1).f1.f2))).setCell ⟨gb109, 4, none⟩ (.bool ((rd_T44 l0_2 a1).f1.f3))).setCell ⟨gb109, 5, none⟩ (.int .u8 ((rd_T44 l0_2 a1).f2)))) := ⟨bl_⟩
    (try clear BK107)
    (try clear BK109)
    (try clear HB)
    generalize ((((((w29.setCell ⟨gb109, 0, none⟩ (.bool false)).setCell ⟨gb109, 1, none⟩ (.bool ((rd_T44 l0_2 a1).f1.f0))).setCell ⟨gb109, 2, none⟩ (.bool ((rd_T44 l0_2 a1).f1.f1))).setCell ⟨gb109, 3, none⟩ (.int .i64 ((rd_T44 l0_2 a1).f1.f2))).setCell ⟨gb109, 4, none⟩ (.bool ((rd_T44 l0_2 a1).f1.f3))).setCell ⟨gb109, 5, none⟩ (.int .u8 ((rd_T44 l0_2 a1).f2))) = w32 at n0_ n1_ n2_ ⊢
    have BK107 := n0_
    have BK109 := n1_
    have HB := n2_
    clear n0_ n1_ n2_
    have n0_ := Aside0.mk (blk_drew BK107.out)
    have n1_ := Aside0.mk (blk_drew BK109.out)
    have n2_ := Aside0.mk (below_drew1 HB.out)
    clear BK107
    clear BK109
    clear HB
    have BK107 := n0_
    have BK109 := n1_
    have HB := n2_
    clear n0_ n1_ n2_
    refine start_ (n := 20) (S := fun w' => w'.cell? ⟨gb109, 0, none⟩ = some (.bool false) ∧ w'.cell? ⟨gb109, 1, none⟩ = some (.bool ((rd_T44 l0_2 a1).f1.f0)) ∧ w'.cell? ⟨gb109, 2, none⟩ = some (.bool ((rd_T44 l0_2 a1).f1.f1)) ∧ w'.cell? ⟨gb109, 3, none⟩ = some (.int .i64 ((rd_T44 l0_2 a1).f1.f2)) ∧ w'.cell? ⟨gb109, 4, none⟩ = some (.bool ((rd_T44 l0_2 a1).f1.f3)) ∧ w'.cell? ⟨gb109, 5, none⟩ = some (.int .u8 ((rd_T44 l0_2 a1).f2))) (ds := []) #[false, false, false, false, false, false, false, false, false, false, false, false, false, false, false, false, false, false, false, false] (by kernel_rfl) rfl rfl ⟨(blk_cell BK109.out 0).trans rfl, (blk_cell BK109.out 1).trans rfl, (blk_cell BK109.out 2).trans rfl, (blk_cell BK109.out 3).trans rfl, (blk_cell BK109.out 4).trans rfl, (blk_cell BK109.out 5).trans rfl⟩ (fun hHeld => ?_); refine with_tabW field_enters.tab2 field_enters.bits2 (fun HT_ HW_ => ?_)
    generalize w32.drew = w33 at BK107 BK109 HB hHeld ⊢
    refine pure_ (i := 0) (N := some 11) (v := ?_) (a' := ?_) #[true, false, false, false, false, false, false, false, false, false, false, false, false, false, false, false, false, false, false, false] rfl rfl (any_of HT_.out (by kernel_rfl)) (fun _ _ _ h => h) (Or.inl ⟨by rfl, ?_⟩) ?_ ?_
    rotate_left
    ·intro w'
     go_simp
     with_reducible rfl
    rotate_left
    ·simp only [Act.put, List.setIfInBounds_toArray, List.set_cons_zero, List.set_cons_succ, i64_w, i32_w]
     rfl
    refine take_ (i := 1) (N := some 12) (v := ?_) (a' := ?_) #[true, true, false, false, false, false, false, false, false, false, false, false, false, false, false, false, false, false, false, false] rfl rfl (take_ofW HT_.out HW_.out (by kernel_rfl)) (fun _ _ _ h => h) (Or.inl ⟨by rfl, ?_⟩) hHeld ?_ ?_
    rotate_left
    ·rintro w' ⟨s0, s1, s2, s3, s4, s5⟩
     go_simp
     with_reducible rfl
    rotate_left
    ·simp only [Act.put, List.setIfInBounds_toArray, List.set_cons_zero, List.set_cons_succ, i64_w, i32_w]
     rfl
    refine pure_ (i := 2) (N := some 13) (v := ?_) (a' := ?_) #[true, true, true, false, false, false, false, false, false, false, false, false, false, false, false, false, false, false, false, false] rfl rfl (any_of HT_.out (by kernel_rfl)) (fun _ _ _ h => h) (Or.inl ⟨by rfl, ?_⟩) ?_ ?_
    rotate_left
    ·intro w'
     go_simp
     with_reducible rfl
    rotate_left
    ·simp only [Act.put, List.setIfInBounds_toArray, List.set_cons_zero, List.set_cons_succ, i64_w, i32_w]
     rfl
    refine pure_ (i := 3) (N := some 14) (v := undef) (a' := ?_) #[true, true, true, true, false, false, false, false, false, false, false, false, false, false, false, false, false, false, false, false] rfl rfl (any_of HT_.out (by kernel_rfl)) (fun _ _ _ h => h) (Or.inr ⟨by rfl, rfl⟩) ?_ ?_
    rotate_left
    ·simp only [Act.put, List.setIfInBounds_toArray, List.set_cons_zero, List.set_cons_succ, i64_w, i32_w]
     rfl
    refine pure_ (i := 4) (N := some 15) (v := undef) (a' := ?_) #[true, true, true, true, true, false, false, false, false, false, false, false, false, false, false, false, false, false, false, false] rfl rfl (any_of HT_.out (by kernel_rfl)) (fun _ _ _ h => h) (Or.inr ⟨by rfl, rfl⟩) ?_ ?_
    rotate_left
    ·simp only [Act.put, List.setIfInBounds_toArray, List.set_cons_zero, List.set_cons_succ, i64_w, i32_w]
     rfl
    refine pure_ (i := 5) (N := some 16) (v := undef) (a' := ?_) #[true, true, true, true, true, true, false, false, false, false, false, false, false, false, false, false, false, false, false, false] rfl rfl (any_of HT_.out (by kernel_rfl)) (fun _ _ _ h => h) (Or.inr ⟨by rfl, rfl⟩) ?_ ?_
    rotate_left
    ·simp only [Act.put, List.setIfInBounds_toArray, List.set_cons_zero, List.set_cons_succ, i64_w, i32_w]
     rfl
    refine pure_ (i := 6) (N := some 17) (v := undef) (a' := ?_) #[true, true, true, true, true, true, true, false, false, false, false, false, false, false, false, false, false, false, false, false] rfl rfl (any_of HT_.out (by kernel_rfl)) (fun _ _ _ h => h) (Or.inr ⟨by rfl, rfl⟩) ?_ ?_
    rotate_left
    ·simp only [Act.put, List.setIfInBounds_toArray, List.set_cons_zero, List.set_cons_succ, i64_w, i32_w]
     rfl
    refine pure_ (i := 7) (N := some 18) (v := ?_) (a' := ?_) #[true, true, true, true, true, true, true, true, false, false, false, false, false, false, false, false, false, false, false, false] rfl rfl (any_of HT_.out (by kernel_rfl)) (fun _ _ _ h => h) (Or.inl ⟨by rfl, ?_⟩) ?_ ?_
    rotate_left
    ·intro w'
     go_simp
     with_reducible rfl
    rotate_left
    ·simp only [Act.put, List.setIfInBounds_toArray, List.set_cons_zero, List.set_cons_succ, i64_w, i32_w]
     rfl
    refine pure_ (i := 8) (N := some 19) (v := ?_) (a' := ?_) #[true, true, true, true, true, true, true, true, true, false, false, false, false, false, false, false, false, false, false, false] rfl rfl (any_of HT_.out (by kernel_rfl)) (fun _ _ _ h => h) (Or.inl ⟨by rfl, ?_⟩) ?_ ?_
    rotate_left
    ·intro w'
     go_simp
     with_reducible rfl
    rotate_left
    ·simp only [Act.put, List.setIfInBounds_toArray, List.set_cons_zero, List.set_cons_succ, i64_w, i32_w]
     rfl
    refine pure_ (i := 9) (N := some 20) (v := undef) (a' := ?_) #[true, true, true, true, true, true, true, true, true, true, false, false, false, false, false, false, false, false, false, false] rfl rfl (any_of HT_.out (by kernel_rfl)) (fun _ _ _ h => h) (Or.inr ⟨by rfl, rfl⟩) ?_ ?_
    rotate_left
    ·simp only [Act.put, List.setIfInBounds_toArray, List.set_cons_zero, List.set_cons_succ, i64_w, i32_w]
     rfl
    refine pure_ (i := 10) (N := some 21) (v := undef) (a' := ?_) #[true, true, true, true, true, true, true, true, true, true, true, false, false, false, false, false, false, false, false, false] rfl rfl (any_of HT_.out (by kernel_rfl)) (fun _ _ _ h => h) (Or.inr ⟨by rfl, rfl⟩) ?_ ?_
    rotate_left
    ·simp only [Act.put, List.setIfInBounds_toArray, List.set_cons_zero, List.set_cons_succ, i64_w, i32_w]
     rfl
    refine pure_ (i := 11) (N := some 22) (v := undef) (a' := ?_) #[true, true, true, true, true, true, true, true, true, true, true, true, false, false, false, false, false, false, false, false] rfl rfl (any_of HT_.out (by kernel_rfl)) (fun _ _ _ h => h) (Or.inr ⟨by rfl, rfl⟩) ?_ ?_
    rotate_left
    ·simp only [Act.put, List.setIfInBounds_toArray, List.set_cons_zero, List.set_cons_succ, i64_w, i32_w]
     rfl
    refine pure_ (i := 12) (N := some 23) (v := undef) (a' := ?_) #[true, true, true, true, true, true, true, true, true, true, true, true, true, false, false, false, false, false, false, false] rfl rfl (any_of HT_.out (by kernel_rfl)) (fun _ _ _ h => h) (Or.inr ⟨by rfl, rfl⟩) ?_ ?_
    rotate_left
    ·simp only [Act.put, List.setIfInBounds_toArray, List.set_cons_zero, List.set_cons_succ, i64_w, i32_w]
     rfl
    refine pure_ (i := 13) (N := some 24) (v := undef) (a' := ?_) #[true, true, true, true, true, true, true, true, true, true, true, true, true, true, false, false, false, false, false, false] rfl rfl (any_of HT_.out (by kernel_rfl)) (fun _ _ _ h => h) (Or.inr ⟨by rfl, rfl⟩) ?_ ?_
    rotate_left
    ·simp only [Act.put, List.setIfInBounds_toArray, List.set_cons_zero, List.set_cons_succ, i64_w, i32_w]
     rfl
    refine pure_ (i := 14) (N := some 25) (v := undef) (a' := ?_) #[true, true, true, true, true, true, true, true, true, true, true, true, true, true, true, false, false, false, false, false] rfl rfl (any_of HT_.out (by kernel_rfl)) (fun _ _ _ h => h) (Or.inr ⟨by rfl, rfl⟩) ?_ ?_
    rotate_left
    ·simp only [Act.put, List.setIfInBounds_toArray, List.set_cons_zero, List.set_cons_succ, i64_w, i32_w]
     rfl
    refine pure_ (i := 15) (N := some 26) (v := undef) (a' := ?_) #[true, true, true, true, true, true, true, true, true, true, true, true, true, true, true, true, false, false, false, false] rfl rfl (any_of HT_.out (by kernel_rfl)) (fun _ _ _ h => h) (Or.inr ⟨by rfl, rfl⟩) ?_ ?_
    rotate_left
    ·simp only [Act.put, List.setIfInBounds_toArray, List.set_cons_zero, List.set_cons_succ, i64_w, i32_w]
     rfl
    refine pure_ (i := 16) (N := some 27) (v := undef) (a' := ?_) #[true, true, true, true, true, true, true, true, true, true, true, true, true, true, true, true, true, false, false, false] rfl rfl (any_of HT_.out (by kernel_rfl)) (fun _ _ _ h => h) (Or.inr ⟨by rfl, rfl⟩) ?_ ?_
    rotate_left
    ·simp only [Act.put, List.setIfInBounds_toArray, List.set_cons_zero, List.set_cons_succ, i64_w, i32_w]
     rfl
    refine pure_ (i := 17) (N := some 28) (v := undef) (a' := ?_) #[true, true, true, true, true, true, true, true, true, true, true, true, true, true, true, true, true, true, false, false] rfl rfl (any_of HT_.out (by kernel_rfl)) (fun _ _ _ h => h) (Or.inr ⟨by rfl, rfl⟩) ?_ ?_
    rotate_left
    ·simp only [Act.put, List.setIfInBounds_toArray, List.set_cons_zero, List.set_cons_succ, i64_w, i32_w]
     rfl
    refine pure_ (i := 18) (N := some 29) (v := ?_) (a' := ?_) #[true, true, true, true, true, true, true, true, true, true, true, true, true, true, true, true, true, true, true, false] rfl rfl (any_of HT_.out (by kernel_rfl)) (fun _ _ _ h => h) (Or.inl ⟨by rfl, ?_⟩) ?_ ?_
    rotate_left
    ·intro w'
     go_simp
     with_reducible rfl
    rotate_left
    ·simp only [Act.put, List.setIfInBounds_toArray, List.set_cons_zero, List.set_cons_succ, i64_w, i32_w]
     rfl
    refine pure_ (i := 19) (N := some 4) (v := ?_) (a' := ?_) #[true, true, true, true, true, true, true, true, true, true, true, true, true, true, true, true, true, true, true, true] rfl rfl (any_of HT_.out (by kernel_rfl)) (fun _ _ _ h => h) (Or.inl ⟨by rfl, ?_⟩) ?_ ?_
    rotate_left
    ·intro w'
     go_simp
     with_reducible rfl
    rotate_left
    ·simp only [Act.put, List.setIfInBounds_toArray, List.set_cons_zero, List.set_cons_succ, i64_w, i32_w]
     rfl
    refine done_ (done_of HT_.out (by kernel_rfl)) ?_
    try go_wp2
    go_ret
    exact ⟨by first | rfl | (simp [errW_none, errW_some] <;> rfl) | (simp [*, errW_none, errW_some] <;> rfl), bl_⟩
  ·rw [if_neg c4] at H
   exact absurd H (by simp)
 ·rw [if_neg c3] at H
  exact absurd H (by simp)

/-! ### field_Begin: function 52 -/
section
open Go.Shelf
attribute [local go_sem] Oper.semAt_some

def isF (l : List S44) (i : Int) : Bool := (rd_T44 l i).f0
def findW (p : Int → Bool) (g : Nat → Int) : Nat → Nat → Int
 | 0, _ => -1
 | c + 1, s => if p (g s) = true then g s else findW p g c (s + 1)
theorem findW_eq (p : Int → Bool) (g : Nat → Int) : ∀ c s j, s ≤ j → j < s + c → p (g j) = true → (∀ i, s ≤ i → i < j → p (g i) = false) → findW p g c s = g j
 | 0, s, j, h1, h2, _, _ => by omega
 | c + 1, s, j, h1, h2, hp, hn => by
  unfold findW
  by_cases e : s = j
  ·subst e; rw [if_pos hp]
  ·rw [if_neg (by rw [hn s (Nat.le_refl _) (by omega)]; decide)]
   exact findW_eq p g c (s + 1) j (by omega) (by omega) hp (fun i a b => hn i (by omega) b)
theorem findW_none (p : Int → Bool) (g : Nat → Int) : ∀ c s, (∀ i, s ≤ i → i < s + c → p (g i) = false) → findW p g c s = -1
 | 0, s, _ => rfl
 | c + 1, s, hn => by
  unfold findW
  rw [if_neg (by rw [hn s (Nat.le_refl _) (by omega)]; decide)]
  exact findW_none p g c (s + 1) (fun i a b => hn i (by omega) (by omega))
theorem findW_cases (p : Int → Bool) (g : Nat → Int) : ∀ c s, (findW p g c s = -1 ∧ ∀ i, s ≤ i → i < s + c → p (g i) = false) ∨ ∃ j, s ≤ j ∧ j < s + c ∧ p (g j) = true ∧ (∀ i, s ≤ i → i < j → p (g i) = false) ∧ findW p g c s = g j
 | 0, s => .inl ⟨rfl, fun i a b => by omega⟩
 | c + 1, s => by
  unfold findW
  by_cases e : p (g s) = true
  ·exact .inr ⟨s, Nat.le_refl _, by omega, e, fun i a b => by omega, by rw [if_pos e]⟩
  ·rw [if_neg e]
   rcases findW_cases p g c (s + 1) with ⟨h1, h2⟩ | ⟨j, h1, h2, h3, h4, h5⟩
   ·exact .inl ⟨h1, fun i a b => by
     by_cases ei : i = s
     ·subst ei; simpa using e
     ·exact h2 i (by omega) (by omega)⟩
   ·exact .inr ⟨j, by omega, by omega, h3, fun i a b => by
     by_cases ei : i = s
     ·subst ei; simpa using e
     ·exact h4 i (by omega) b, h5⟩

/-- where the field begins that a cell lies in -/
def beginI (l : List S44) (a : Int) : Int := findW (isF l) (fun j => (a - j) % (l.length : Int)) l.length 0

theorem begin_range (l : List S44) (a : Int) (hp : 0 < l.length) : beginI l a = -1 ∨ (0 ≤ beginI l a ∧ beginI l a < l.length ∧ isF l (beginI l a) = true) := by
 rcases findW_cases (isF l) (fun j => (a - j) % (l.length : Int)) l.length 0 with ⟨h, _⟩ | ⟨j, _, _, h3, _, h⟩
 ·exact .inl h
 ·right
  unfold beginI
  rw [h]
  exact ⟨Int.emod_nonneg _ (by omega), Int.emod_lt_of_pos _ (by omega), h3⟩

theorem begin_here (l : List S44) (a : Int) (h0 : 0 ≤ a) (h1 : a < l.length) (h : isF l a = true) : beginI l a = a := by
 have e : (a - ((0 : Nat) : Int)) % (l.length : Int) = a := by simp; exact Int.emod_eq_of_lt h0 h1
 have := findW_eq (isF l) (fun j => (a - j) % (l.length : Int)) l.length 0 0 (by omega) (by omega) (by show isF l ((a - ((0 : Nat) : Int)) % (l.length : Int)) = true; rw [e]; exact h) (fun i a b => by omega)
 rw [beginI, this]; exact e
theorem way_back (n : Nat) (a : Int) (j : Nat) : wayI n a (-1) j = (a - ((j + 1 : Nat) : Int)) % (n : Int) := by
 unfold wayI sgnI; simp; congr 1; omega
theorem begin_way (l : List S44) (a : Int) (h0 : 0 ≤ a) (h1 : a < l.length) (h : isF l a = false) (k : Nat) (hk : k < l.length) (hp : isF l (wayI l.length a (-1) k) = true) (hn : ∀ i, i < k → isF l (wayI l.length a (-1) i) = false) : beginI l a = wayI l.length a (-1) k := by
 have hkn : k + 1 < l.length := by
  rcases Nat.lt_or_ge (k + 1) l.length with h' | h'
  ·exact h'
  ·have ek : k + 1 = l.length := by omega
   have : wayI l.length a (-1) k = a := by
    rw [way_back, ek, Int.sub_emod_right]; exact Int.emod_eq_of_lt h0 h1
   rw [this, h] at hp; exact absurd hp (by decide)
 have := findW_eq (isF l) (fun j => (a - j) % (l.length : Int)) l.length 0 (k + 1) (by omega) (by omega) (by show isF l ((a - ((k + 1 : Nat) : Int)) % (l.length : Int)) = true; rw [← way_back]; exact hp) (fun i _ b => by
  show isF l ((a - (i : Int)) % (l.length : Int)) = false
  rcases i with _ | i
  ·simp; rw [Int.emod_eq_of_lt h0 h1]; exact h
  ·rw [← way_back]; exact hn i (by omega))
 rw [beginI, this]; exact (way_back _ _ _).symm
theorem begin_none (l : List S44) (a : Int) (h0 : 0 ≤ a) (h1 : a < l.length) (h : isF l a = false) (hn : ∀ i, i < l.length → isF l (wayI l.length a (-1) i) = false) : beginI l a = -1 := by
 refine findW_none _ _ _ _ (fun i _ b => ?_)
 show isF l ((a - (i : Int)) % (l.length : Int)) = false
 rcases i with _ | i
 ·simp; rw [Int.emod_eq_of_lt h0 h1]; exact h
 ·rw [← way_back]; exact hn i (by omega)

theorem cell_f0 {w : World} {A : Option Addr} {l : List S44} (hr : Kd.C k44 w A l.length l) (i : Int) (h0 : 0 ≤ i) (h1 : i < l.length) : ∃ ad, A = some ad ∧ w.cell? (ad.add (i.toNat * 6)) = some (.bool (isF l i)) ∧ (ad.add (i.toNat * 6)).block < w.heap.size := by
 obtain ⟨ad, e, h, _⟩ := at_T44 hr i h0 h1
 exact ⟨ad, e, h, World.block_lt_of_cell? w _ h⟩

set_option maxRecDepth 100000 in
set_option maxHeartbeats 2000000 in
theorem Begin_here (r c : Int) (A : Option Addr) (cp : Nat) (l : List S44) (cu : Int) (lo ins : Bool) (a : Int) (w : World) (hr : Kd.C k44 w A l.length l) (hc : l.length ≤ cp) (h0 : 0 ≤ a) (h1 : a < l.length) (hf : isF l a = true) :
  Calls Tryd.prog 52 #[.agg #[.int .i64 r, .int .i64 c, .slice A l.length cp, .int .i64 cu, .bool lo, .bool ins], .int .i64 a] w fun e w' => e = .returned (.int .i64 (beginI l a)) ∧ Below w.heap.size w w' := by
 have hb := begin_here l a h0 h1 hf
 rw [hb]
 obtain ⟨ad, rfl, hcell, hlt⟩ := cell_f0 hr a h0 h1
 rw [hf] at hcell
 clear hf hb
 have hu24 := Tryd.underlying24
 have hu44 := Tryd.underlying44
 go_enter Tryd.func52, Tryd.ntmps52
 go_wp2
 refine bodyPost_ret (v := .int .i64 a) (by simp [results, Tryd.results52, go_sem]) rfl ⟨rfl, ?_⟩
 exact ((Below.refl _ w).alloc (Nat.le_refl _) _).alloc (by simp) _

theorem uptoI_last {α : Type} (f : Nat → α) (k : Nat) (ini : List α) (x : α) (h : uptoI f k = ini ++ [x]) : ∃ j, k = j + 1 ∧ ini = uptoI f j ∧ x = f j := by
 rcases k with _ | j
 ·simp [uptoI] at h
 ·rw [uptoI_succ] at h
  obtain ⟨e1, e2⟩ := List.append_inj' h rfl
  exact ⟨j, rfl, e1.symm, by simpa using e2.symm⟩
theorem mem_uptoI {α : Type} (f : Nat → α) (k j : Nat) (h : j < k) : f j ∈ uptoI f k := by
 simp only [uptoI, List.mem_map, List.mem_range]; exact ⟨j, h, rfl⟩

set_option maxRecDepth 100000 in
set_option maxHeartbeats 4000000 in
theorem Begin_loop (r c : Int) (A : Option Addr) (cp : Nat) (l : List S44) (cu : Int) (lo ins : Bool) (a : Int) (w : World) (hr : Kd.C k44 w A l.length l) (hc : l.length ≤ cp) (hn : l.length ≤ 16383) (h0 : 0 ≤ a) (h1 : a < l.length) (hf : isF l a = false) :
  CallsIn Fence.wide 5 Tryd.prog 52 #[.agg #[.int .i64 r, .int .i64 c, .slice A l.length cp, .int .i64 cu, .bool lo, .bool ins], .int .i64 a] w fun e w' => e = .returned (.int .i64 (beginI l a)) ∧ Below w.heap.size w w' := by
 have hpos : 0 < l.length := by omega
 obtain ⟨ad, rfl, hcell, hlt⟩ := cell_f0 hr a h0 h1
 have Hfa := Aside0.mk hf
 rw [hf] at hcell
 clear hf
 have hu24 := Tryd.underlying24
 have hu44 := Tryd.underlying44
 refine callsIn_of_wp_marks Tryd.func52 rfl trivial ?_ rfl
 simp only [Tryd.ntmps52, List.size_toArray, List.length_cons, List.length_nil, Nat.reduceAdd, Nat.reduceSub, Array.replicate_succ, Array.replicate_zero, List.push_toArray, List.append_toArray, List.nil_append, List.cons_append]
 gi_wp2_with (refine ⟨trivial, ?_⟩; gi_at_call 42; refine (callsIn_wide.2 (Round_exact r c _ _ cp cu lo ins a (-1) _)).mono ?_; rintro e w' ⟨rfl, rfl⟩)
 have hB0 : Below w.heap.size w (((((w.alloc (.cells #[.int .i64 r, .int .i64 c, .slice (some ad) l.length cp, .int .i64 cu, .bool lo, .bool ins] 24)).alloc (.cells #[.int .i64 0] 3)).alloc (.cells #[.int .i64 r, .int .i64 c, .slice (some ad) l.length cp, .int .i64 cu, .bool lo, .bool ins] 24)).alloc (.cells #[.int .i64 a] 3)).alloc (.cells #[.int .i64 (-1)] 3)) :=
  (((((Below.refl _ w).alloc (Nat.le_refl _) _).alloc (by simp) _).alloc (by simp; omega) _).alloc (by simp; omega) _).alloc (by simp; omega) _
 have k1 := blk_new w (.cells #[.int .i64 r, .int .i64 c, .slice (some ad) l.length cp, .int .i64 cu, .bool lo, .bool ins] 24)
 have k2 := blk_new (w.alloc (.cells #[.int .i64 r, .int .i64 c, .slice (some ad) l.length cp, .int .i64 cu, .bool lo, .bool ins] 24)) (.cells #[.int .i64 0] 3)
 have k3 := blk_new ((w.alloc (.cells #[.int .i64 r, .int .i64 c, .slice (some ad) l.length cp, .int .i64 cu, .bool lo, .bool ins] 24)).alloc (.cells #[.int .i64 0] 3)) (.cells #[.int .i64 r, .int .i64 c, .slice (some ad) l.length cp, .int .i64 cu, .bool lo, .bool ins] 24)
 have k4 := blk_new (((w.alloc (.cells #[.int .i64 r, .int .i64 c, .slice (some ad) l.length cp, .int .i64 cu, .bool lo, .bool ins] 24)).alloc (.cells #[.int .i64 0] 3)).alloc (.cells #[.int .i64 r, .int .i64 c, .slice (some ad) l.length cp, .int .i64 cu, .bool lo, .bool ins] 24)) (.cells #[.int .i64 a] 3)
 have k5 := blk_new ((((w.alloc (.cells #[.int .i64 r, .int .i64 c, .slice (some ad) l.length cp, .int .i64 cu, .bool lo, .bool ins] 24)).alloc (.cells #[.int .i64 0] 3)).alloc (.cells #[.int .i64 r, .int .i64 c, .slice (some ad) l.length cp, .int .i64 cu, .bool lo, .bool ins] 24)).alloc (.cells #[.int .i64 a] 3)) (.cells #[.int .i64 (-1)] 3)
 simp only [World.size_alloc] at k2 k3 k4 k5
 refine wpIn_rangeFunc_ownG rfl (by omega) (gf := 49) (lb := #[.pointer (some ⟨w.heap.size + 1 + 1, 0, none⟩), .pointer (some ⟨w.heap.size + 1 + 1 + 1, 0, none⟩), .pointer (some ⟨w.heap.size + 1 + 1 + 1 + 1, 0, none⟩)]) rfl trivial (enters_of Tryd.func49 (by kernel_rfl) rfl)
  (round_stops 4 (by omega) (w.heap.size + 1 + 1) (w.heap.size + 1 + 1 + 1) (w.heap.size + 1 + 1 + 1 + 1) r c (some ad) l.length cp cu lo ins a (-1) hpos hn h0 h1 _ (blk_alloc (blk_alloc k3 _) _) (blk_alloc k4 _) k5) Keep3.trans (Keep3.put (by simp) (by simp) (by simp)) (Below.refl _ _) (fun _ => rfl)
  (fun pre W => ((∀ x ∈ pre, isF l x.1 = false) ∧ W.heap[w.heap.size]? = some (.cells #[.int .i64 r, .int .i64 c, .slice (some ad) l.length cp, .int .i64 cu, .bool lo, .bool ins] 24 (0, 0)) ∧ Boxed W (w.heap.size + 1) 3 (.int .i64 0)) ∧ Below w.heap.size w W)
  (fun c pre W => (c = .ret ∧ ∃ ini last, pre = ini ++ [last] ∧ (∀ x ∈ ini, isF l x.1 = false) ∧ isF l last.1 = true ∧ Boxed W (w.heap.size + 1) 3 (.int .i64 last.1)) ∧ Below w.heap.size w W)
  (OwnFrom.and (Own.from (fun s A B row hs hg hr => ⟨hs.1, (grownBy_keeps_cells hg hr hs.2.1 rfl).trans hs.2.1, (grownBy_keeps_cells hg hr hs.2.2 rfl).trans hs.2.2⟩) _) (ownFrom_below (Nat.le_refl _) (by simp; omega)))
  (fun c => OwnFrom.and (Own.from (fun s A B row hs hg hr => by obtain ⟨hc, ini, last, e1, e2, e3, e4⟩ := hs; exact ⟨hc, ini, last, e1, e2, e3, (grownBy_keeps_cells hg hr e4 rfl).trans e4⟩) _) (ownFrom_below (Nat.le_refl _) (by simp; omega)))
  ⟨⟨by simp, blk_alloc (blk_alloc (blk_alloc (blk_alloc k1 _) _) _) _, blk_alloc (blk_alloc (blk_alloc k2 _) _) _⟩, hB0⟩
  (fun x => { tmps := #[.agg #[.int .i64 r, .int .i64 c, .slice (some ad) l.length cp, .int .i64 cu, .bool lo, .bool ins], .int .i64 a, .pointer (some ⟨w.heap.size, 0, none⟩), undef, .pointer (some ⟨w.heap.size + 1, 0, none⟩), .int .i64 x.1, .pointer (some ⟨w.heap.size, 2, none⟩), .slice (some ad) l.length cp, .int .i64 a, .pointer (some (ad.add (a.toNat * 6))), .pointer (some (ad.add (a.toNat * 6))), .bool false, undef, .agg #[.int .i64 r, .int .i64 c, .slice (some ad) l.length cp, .int .i64 cu, .bool lo, .bool ins], .int .i64 a, .func (.func 49) #[] #[.pointer (some ⟨w.heap.size + 1 + 1, 0, none⟩), .pointer (some ⟨w.heap.size + 1 + 1 + 1, 0, none⟩), .pointer (some ⟨w.heap.size + 1 + 1 + 1 + 1, 0, none⟩)], .int .i64 x.1, undef, undef, undef, undef, undef, undef, undef], defers := [] }) ?assign ?body ?done ?stop
 case assign =>
  intro l x W K hK
  gi_wp2
  exact hK
 case body =>
  rintro lp pre x W ⟨⟨hp, hS, hR⟩, hB⟩ _
  obtain ⟨ad', e', hcx, hltx⟩ := cell_f0 hr x.1 x.2.1 x.2.2
  cases e'
  have hcW := (hB.cell hltx).trans hcx
  have s2 := (blk_cell hS 2).trans rfl
  have x0 := x.2.1
  have x1 := x.2.2
  have rC := hR.cell
  have rF := hR.frozen
  cases hfx : isF l x.1 with
  | true =>
   rw [hfx] at hcW
   gi_wp2
   exact ⟨(KeepsOthers.setCell _ _ _).from _, ⟨rfl, pre, x, rfl, hp, hfx, hR.set _⟩, hB.setCell (p := ⟨w.heap.size + 1, 0, none⟩) (Nat.le_succ _) _⟩
  | false =>
   rw [hfx] at hcW
   gi_wp2
   exact ⟨KeepsFrom.refl _ _, Keep3.refl _ _ _ _, ⟨fun y hy => (List.mem_append.1 hy).elim (hp y) (fun e => by simp at e; subst e; exact hfx), hS, hR⟩, hB⟩
 case done =>
  rintro D ys W hD rfl ⟨⟨hne, hS, hR⟩, hB⟩ hK
  have rC := hR.cell
  have rF := hR.frozen
  gi_wp2
  have hK' := (KeepsOthers.setCell W ⟨w.heap.size + 1, 0, none⟩ (.int .i64 (-1))).same D _ hK rfl
  refine ⟨by simp, .inl ⟨_, _, rfl, run_takeDeferred hK', ?_⟩⟩
  have hc5 := cell_kept (hR.set (.int .i64 (-1))).cell (grownBy_putObj' _ D (.deferred none)) (fun r e => by cases e; exact ⟨_, hK', rfl⟩)
  have hE := begin_none l a h0 h1 Hfa.out (fun i hi => hne _ (mem_uptoI (wayS hpos a (-1)) l.length i hi))
  refine ⟨.int .i64 (-1), ?_, by rw [hE], (hB.setCell (p := ⟨w.heap.size + 1, 0, none⟩) (Nat.le_succ _) _).trans (belowK_b (w := w) (Nat.le_refl _) _ D _ _ (by simp at hD; omega) hK' rfl rfl)⟩
  simp [results, Tryd.results52, go_sem, hc5]
 case stop =>
  rintro D c pre W hD ⟨k, hk, rfl⟩ ⟨⟨rfl, ini, last, e1, e2, e3, hR⟩, hB⟩ hK
  gi_wp2
  refine ⟨by simp, .inl ⟨_, _, rfl, run_takeDeferred hK, ?_⟩⟩
  have hc5 := cell_kept hR.cell (grownBy_putObj' _ D (.deferred none)) (fun r e => by cases e; exact ⟨_, hK, rfl⟩)
  obtain ⟨j, rfl, rfl, rfl⟩ := uptoI_last _ _ _ _ e1
  have hE := begin_way l a h0 h1 Hfa.out j (by omega) e3 (fun i hi => e2 _ (mem_uptoI (wayS hpos a (-1)) j i hi))
  refine ⟨.int .i64 (wayI l.length a (-1) j), ?_, by rw [hE], hB.trans (belowK_b (w := w) (Nat.le_refl _) _ D _ _ (by simp at hD; omega) hK rfl rfl)⟩
  simp [results, Tryd.results52, go_sem, hc5]
  rfl

theorem guard3 {α : Type} {p q s : Prop} [Decidable p] [Decidable q] [Decidable s] {x r : α} (h : (if p then (if q then (if s then some x else none) else none) else none) = some r) : p ∧ q ∧ s ∧ x = r := by
 by_cases hp : p
 ·rw [if_pos hp] at h
  by_cases hq : q
  ·rw [if_pos hq] at h
   by_cases hs : s
   ·rw [if_pos hs] at h; exact ⟨hp, hq, hs, Option.some.inj h⟩
   ·rw [if_neg hs] at h; cases h
  ·rw [if_neg hq] at h; cases h
 ·rw [if_neg hp] at h; cases h

def field_Begin.f (a0_0 : Int) (a0_1 : Int) (l0_2 : List (S44)) (a0_3 : Int) (a0_4 : Bool) (a0_5 : Bool) (a1 : Int) : Option Int := if l0_2.length ≤ 16383 then (if 0 ≤ a1 then (if a1 < (l0_2.length : Int) then (some (beginI l0_2 a1)) else (none)) else (none)) else (none)
theorem field_Begin.calls (a0_0 : Int) (a0_1 : Int) (A0_2 : Option Addr) (c0_2 : Nat) (l0_2 : List (S44)) (a0_3 : Int) (a0_4 : Bool) (a0_5 : Bool) (a1 : Int) (r : Int) (w : World) (hr0_2 : Kd.C k44 w A0_2 l0_2.length l0_2) (hc0_2 : l0_2.length ≤ c0_2) (h : field_Begin.f a0_0 a0_1 l0_2 a0_3 a0_4 a0_5 a1 = some r) :
  Calls Tryd.prog 52 #[.agg #[.int .i64 a0_0, .int .i64 a0_1, .slice A0_2 l0_2.length c0_2, .int .i64 a0_3, .bool a0_4, .bool a0_5], .int .i64 a1] w fun e w' => e = .returned (.int .i64 r) ∧ Below w.heap.size w w' := by
 obtain ⟨hn, h0, h1, rfl⟩ := guard3 h
 cases hf : isF l0_2 a1 with
 | true => exact Begin_here a0_0 a0_1 A0_2 c0_2 l0_2 a0_3 a0_4 a0_5 a1 w hr0_2 hc0_2 h0 h1 hf
 | false => exact callsIn_wide.1 (Begin_loop a0_0 a0_1 A0_2 c0_2 l0_2 a0_3 a0_4 a0_5 a1 w hr0_2 hc0_2 hn h0 h1 hf)
end

end Go.Proofs.YtapcfcagjlmgjaaDoor.P
