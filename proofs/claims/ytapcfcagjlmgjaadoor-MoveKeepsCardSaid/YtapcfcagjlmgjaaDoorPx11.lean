/- The functions of the seat's laws as plain Lean functions, and that Go's code comes to just their answers. Written by pp.py (wip/tools), a program of this session, on the kit's print. -/
import Derived.Test.YtapcfcagjlmgjaaDoorPx0
import Derived.Test.YtapcfcagjlmgjaaDoorPx7
import Derived.Test.YtapcfcagjlmgjaaDoorPx10
namespace Go.Proofs.YtapcfcagjlmgjaaDoor.P
open Go.RowKit Go.Proofs.YtapcfcagjlmgjaaDoorW.PrintWords Go.Proofs.YtapcfcagjlmgjaaDoorW.PrintLast Go.Proofs.YtapcfcagjlmgjaaDoorW.PrintMore
attribute [local go_sem] max2_int min2_int max_two min_two max_three min_three max_four min_four   -- for this text's walks alone
attribute [local go_sem] Instr.field asAgg
set_option linter.unusedVariables false
set_option linter.unusedSimpArgs false

/-! ### shutterref15_Do: function 11 -/
def shutterref15_Do.j0 : Nat → Int → Bool → Int → Int → List (S44) → Int → Bool → Bool → Option (Int × Int × (List (S44)) × Int × Bool × Bool × Int)
 | 0, _, _, _, _, _, _, _, _ => none
 | k + 1, x1, x12, x259000, x259001, x259002, x259003, x259004, x259005 => if x12 = true then (some (x259000, x259001, x259002, x259003, x259004, x259005, 1)) else (if x259004 = true then (some (x259000, x259001, x259002, x259003, x259004, x259005, 7)) else ((shutterref10_Copy.f x259000 x259001 x259002 x259003 x259004 x259005).bind fun bt260 => ((shutterref15_To.f k x259000 x259001 x259002 x259003 x259004 x259005 x1).bind fun t269 => (some (bt260.1, bt260.2.1, bt260.2.2.1, t269, bt260.2.2.2.2.1, bt260.2.2.2.2.2, 0)))))
def shutterref15_Do.f (k : Nat) (a0_0 : Int) (a0_1 : Int) (l0_2 : List (S44)) (a0_3 : Int) (a0_4 : Bool) (a0_5 : Bool) (a1 : Int) : Option (Int × Int × (List (S44)) × Int × Bool × Bool × Int) := if a1 < 2 then (shutterref15_Do.j0 k a1 true a0_0 a0_1 l0_2 a0_3 a0_4 a0_5) else (shutterref15_Do.j0 k a1 (decide (a1 > 9)) a0_0 a0_1 l0_2 a0_3 a0_4 a0_5)
theorem shutterref15_Do.mono_l : ∀ k, (∀ y0 y1 y2 y3 y4 y5 y6 y7, LeO (shutterref15_Do.j0 k y0 y1 y2 y3 y4 y5 y6 y7) (shutterref15_Do.j0 (k + 1) y0 y1 y2 y3 y4 y5 y6 y7))
 | 0 => fun _ _ _ _ _ _ _ _ r h => by simp [shutterref15_Do.j0] at h
 | k + 1 => by
  have ih0 := shutterref15_Do.mono_l k
  ·intro y0 y1 y2 y3 y4 y5 y6 y7
   unfold shutterref15_Do.j0
   repeat' first
   | (with_reducible exact ih0 _ _ _ _ _ _ _ _)
   | (with_reducible exact shutterref15_To.mono _ _ _ _ _ _ _ _)
   | (with_reducible exact LeO.refl _)
   | (with_reducible exact LeO.none _)
   | (with_reducible refine LeO.ite ?_ ?_)
   | (with_reducible refine LeO.bind ?_ (fun _ => ?_))
   | exact ih0 _ _ _ _ _ _ _ _
   | exact shutterref15_To.mono _ _ _ _ _ _ _ _
   | exact LeO.none _
   | refine LeO.ite ?_ ?_
   | refine LeO.bind ?_ (fun _ => ?_)
theorem shutterref15_Do.mono : ∀ a0 a1 a2 a3 a4 a5 a6 k, LeO (shutterref15_Do.f k a0 a1 a2 a3 a4 a5 a6) (shutterref15_Do.f (k + 1) a0 a1 a2 a3 a4 a5 a6) := by
 intro a0 a1 a2 a3 a4 a5 a6 k
 have ih0 := shutterref15_Do.mono_l k
 unfold shutterref15_Do.f
 repeat' first
   | (with_reducible exact ih0 _ _ _ _ _ _ _ _)
   | (with_reducible exact shutterref15_To.mono _ _ _ _ _ _ _ _)
   | (with_reducible exact LeO.refl _)
   | (with_reducible exact LeO.none _)
   | (with_reducible refine LeO.ite ?_ ?_)
   | (with_reducible refine LeO.bind ?_ (fun _ => ?_))
   | exact ih0 _ _ _ _ _ _ _ _
   | exact shutterref15_To.mono _ _ _ _ _ _ _ _
   | exact LeO.none _
   | refine LeO.ite ?_ ?_
   | refine LeO.bind ?_ (fun _ => ?_)
set_option maxHeartbeats 8000000 in
set_option maxRecDepth 100000 in
theorem shutterref15_Do.calls (k : Nat) (a0_0 : Int) (a0_1 : Int) (P0_2_ : Nat → Prop) (A0_2 : Option Addr) (c0_2 : Nat) (l0_2 : List (S44)) (a0_3 : Int) (a0_4 : Bool) (a0_5 : Bool) (a1 : Int) (r1 : Int) (r2 : Int) (r3 : List (S44)) (r4 : Int) (r5 : Bool) (r6 : Bool) (r7 : Int) (w : World) (hs0_2 : Kd.V k44 44 w w.heap.size (fun k_ => P0_2_ k_) (.slice A0_2 l0_2.length c0_2) l0_2) (h : shutterref15_Do.f k a0_0 a0_1 l0_2 a0_3 a0_4 a0_5 a1 = some (r1, r2, r3, r4, r5, r6, r7)) :
  Calls Tryd.prog 11 #[.agg #[.int .i64 a0_0, .int .i64 a0_1, .slice A0_2 l0_2.length c0_2, .int .i64 a0_3, .bool a0_4, .bool a0_5], .int .i64 a1] w fun e w' => ∃ v2_ : Value, e = .returned (.tuple #[.agg #[.int .i64 r1, .int .i64 r2, v2_, .int .i64 r4, .bool r5, .bool r6], .int .i64 r7]) ∧ Kd.V k44 44 w' w.heap.size (fun k_ => (P0_2_ k_ ∨ w.heap.size ≤ k_)) v2_ r3 ∧ Below w.heap.size w w' := by
 have hu24 := Tryd.underlying24
 have HO0_2 := Aside0.mk (show Kd.V k44 44 w w.heap.size (fun k_ => (P0_2_ k_ ∨ w.heap.size ≤ k_)) (.slice A0_2 l0_2.length c0_2) l0_2 from Kd.V_mono hs0_2 (fun k_ hk => .inl hk))
 have HB := Aside0.mk (Below.refl w.heap.size w)
 have H : (if a1 < 2 then (shutterref15_Do.j0 k a1 true a0_0 a0_1 l0_2 a0_3 a0_4 a0_5) else (shutterref15_Do.j0 k a1 (decide (a1 > 9)) a0_0 a0_1 l0_2 a0_3 a0_4 a0_5)) = some (r1, r2, r3, r4, r5, r6, r7) := h
 clear h
 have HC3 := Aside0.mk H
 clear H
 go_enter Tryd.func11, Tryd.ntmps11
 go_upto_region 1 with (first | ((with_reducible refine gate_dst (N := 2) rfl ?_); refine box_event ?hg (N := 2) ?hd (cs := #[.int .i64 a0_0, .int .i64 a0_1, .slice A0_2 l0_2.length c0_2, .int .i64 a0_3, .bool a0_4, .bool a0_5]) (t := 24) ?hr ?_; (case hd => rfl); (case hg => rfl); (case hr => first | (go_simp; done) | (go_simp; rfl)); intro gb258 hg w4 hbox hb; have n0_ := Aside0.mk (Kd.V_below (Kd.V_elderB (by (with_reducible repeat apply pV); exact HO0_2.out) gb258 (Nat.le_of_eq hg.symm)) hb); have n1_ := Aside0.mk (below_step bl_ hb); have n2_ := Aside0.mk (hbox); have n3_ := Aside0.mk ((le_new hg (below_size bl_) : w.heap.size ≤ gb258)); have n4_ := Aside0.mk ((le_new hg (below_size bl_) : w.heap.size ≤ gb258)); clear HO0_2; clear HB; have HO0_2 := n0_; have HB := n1_; have BK258 := n2_; have GW258 := n3_; have GE258 := n4_; clear n0_ n1_ n2_ n3_ n4_; clear hb hbox hg) | ((with_reducible refine gate_dst (N := 4) rfl ?_); refine box_event ?hg (N := 4) ?hd (cs := #[.int .i64 0, .int .i64 0, .slice none 0 0, .int .i64 0, .bool false, .bool false]) (t := 24) ?hr ?_; (case hd => rfl); (case hg => rfl); (case hr => first | (go_simp; done) | (go_simp; rfl)); intro gb259 hg w5 hbox hb; have n0_ := Aside0.mk (Kd.V_below (Kd.V_elderB (by (with_reducible repeat apply pV); exact HO0_2.out) gb259 (Nat.le_of_eq hg.symm)) hb); have n1_ := Aside0.mk (blk_below (g := gb258) (o := .cells #[.int .i64 a0_0, .int .i64 a0_1, .slice A0_2 l0_2.length c0_2, .int .i64 a0_3, .bool a0_4, .bool a0_5] 24 (0, 0)) (by (with_reducible repeat apply pK); exact BK258.out) hb); have n2_ := Aside0.mk (below_step bl_ hb); have n3_ := Aside0.mk (hbox); have n4_ := Aside0.mk ((le_new hg (below_size bl_) : w.heap.size ≤ gb259)); have n5_ := Aside0.mk ((le_new hg (below_size bl_) : w.heap.size ≤ gb259)); have n6_ := Aside0.mk ((by rw [hg]; exact Nat.ne_of_lt (blk_lt (g := gb258) (o := .cells #[.int .i64 a0_0, .int .i64 a0_1, .slice A0_2 l0_2.length c0_2, .int .i64 a0_3, .bool a0_4, .bool a0_5] 24 (0, 0)) (by (with_reducible repeat apply pK); exact BK258.out)) : gb258 ≠ gb259)); have n7_ := Aside0.mk ((by rw [hg]; exact Nat.ne_of_gt (blk_lt (g := gb258) (o := .cells #[.int .i64 a0_0, .int .i64 a0_1, .slice A0_2 l0_2.length c0_2, .int .i64 a0_3, .bool a0_4, .bool a0_5] 24 (0, 0)) (by (with_reducible repeat apply pK); exact BK258.out)) : gb259 ≠ gb258)); clear HO0_2; clear BK258; clear HB; have HO0_2 := n0_; have BK258 := n1_; have HB := n2_; have BK259 := n3_; have GW259 := n4_; have GE259 := n5_; have NB258_259 := n6_; have NB259_258 := n7_; clear n0_ n1_ n2_ n3_ n4_ n5_ n6_ n7_; clear hb hbox hg))
 (try simp only [Act.put, List.setIfInBounds_toArray, List.set_cons_zero, List.set_cons_succ])
 go_cut [12] (fun v12 wc => ∃ (kq : Nat) (x12_2 : Bool), v12 = .bool x12_2 ∧ Aside0 (shutterref15_Do.j0 kq a1 x12_2 a0_0 a0_1 l0_2 a0_3 a0_4 a0_5 = some (r1, r2, r3, r4, r5, r6, r7)) ∧ Aside0 (kq ≤ k) ∧ Aside0 (Kd.V k44 44 wc w.heap.size (fun k_ => (P0_2_ k_ ∨ w.heap.size ≤ k_) ∧ k_ ≠ gb258 ∧ k_ ≠ gb259) (.slice A0_2 l0_2.length c0_2) l0_2) ∧ Aside0 (wc.heap[gb258]? = some (.cells #[.int .i64 a0_0, .int .i64 a0_1, (.slice A0_2 l0_2.length c0_2), .int .i64 a0_3, .bool a0_4, .bool a0_5] 24 (0, 0))) ∧ Aside0 (wc.heap[gb259]? = some (.cells #[.int .i64 0, .int .i64 0, (.slice none 0 0), .int .i64 0, .bool false, .bool false] 24 (0, 0))) ∧ Aside0 (Below w.heap.size w wc))
 case first =>
  have H := HC3.out
  clear HC3
  by_cases c6 : a1 < 2
  ·rw [if_pos c6] at H
   have c6b0 : decide (a1 < 2) = true := decide_eq_true c6
   clear c6
   (first | rw [c6b0] | (simp only [i64_w, i32_w]; rw [c6b0]) | skip)
   have H' := Aside0.mk H
   clear H
   go_wp2
   go_meet
   case rel => exact ⟨_, (true), (by first | rfl | (simp; done) | (simp [*]; done)), H', ⟨by first | omega | exact Nat.le_refl _⟩, ⟨by (with_reducible repeat apply pV); exact Kd.V_mono HO0_2.out (fun _ hk => ⟨hk.1.1, ⟨hk.1.2, hk.2⟩⟩)⟩, ⟨by (with_reducible repeat apply pK); exact BK258.out⟩, ⟨by (with_reducible repeat apply pK); exact BK259.out⟩, ⟨bl_⟩⟩
  ·rw [if_neg c6] at H
   have c6b0 : decide (a1 < 2) = false := decide_eq_false c6
   clear c6
   (first | rw [c6b0] | (simp only [i64_w, i32_w]; rw [c6b0]) | skip)
   have H' := Aside0.mk H
   clear H
   go_wp2
   go_meet
   case rel => exact ⟨_, (decide (a1 > 9)), (by first | rfl | (simp; done) | (simp [*]; done)), H', ⟨by first | omega | exact Nat.le_refl _⟩, ⟨by (with_reducible repeat apply pV); exact Kd.V_mono HO0_2.out (fun _ hk => ⟨hk.1.1, ⟨hk.1.2, hk.2⟩⟩)⟩, ⟨by (with_reducible repeat apply pK); exact BK258.out⟩, ⟨by (with_reducible repeat apply pK); exact BK259.out⟩, ⟨bl_⟩⟩
 case rest =>
  clear HC3
  try clear c1
  try clear p2
  try clear c6
  try clear c6b0
  obtain ⟨kq, x12_2, rfl, HA, HJ2, HO_259002, BK258, BK259, HB⟩ := hcut
  cases kq with
  | zero => exact absurd HA.out (by simp [shutterref15_Do.j0])
  | succ kj2 =>
   have H := HA.out
   clear HA
   simp only [shutterref15_Do.j0] at H
   by_cases c7 : x12_2 = true
   ·subst c7
    have H1 : (some (a0_0, a0_1, l0_2, a0_3, a0_4, a0_5, 1)) = some (r1, r2, r3, r4, r5, r6, r7) := by rw [if_pos rfl] at H; exact H
    clear H
    have H := H1
    clear H1
    simp only [Option.some.injEq, Prod.mk.injEq] at H
    obtain ⟨rfl, rfl, rfl, rfl, rfl, rfl, rfl⟩ := H
    have hnb8 := NB258_259.out
    have hnc8 := NB259_258.out
    obtain ⟨hcz9_0, hcz9_1, hcz9_2, hcz9_3, hcz9_4, hcz9_5, hfz9_0, hfz9_1, hfz9_2, hfz9_3, hfz9_4, hfz9_5⟩ := cells6 (show wc.heap[gb258]? = some (.cells #[.int .i64 a0_0, .int .i64 a0_1, .slice A0_2 l0_2.length c0_2, .int .i64 a0_3, .bool a0_4, .bool a0_5] _ (0, 0)) from BK258.out)
    obtain ⟨hcz10_0, hcz10_1, hcz10_2, hcz10_3, hcz10_4, hcz10_5, hfz10_0, hfz10_1, hfz10_2, hfz10_3, hfz10_4, hfz10_5⟩ := cells6 (show wc.heap[gb259]? = some (.cells #[.int .i64 0, .int .i64 0, .slice none 0 0, .int .i64 0, .bool false, .bool false] _ (0, 0)) from BK259.out)
    go_wp2
    refine bodyPost_ret (results_ct rfl _ _ gb259 24 #[.int .i64 a0_0, .int .i64 a0_1, .slice A0_2 l0_2.length c0_2, .int .i64 a0_3, .bool a0_4, .bool a0_5] (0, 0) _ rfl (by (with_reducible repeat apply pK); refine blk_put (cs := #[.int .i64 a0_0, .int .i64 a0_1, .slice A0_2 l0_2.length c0_2, .int .i64 a0_3, .bool a0_4, .bool false]) ?_ 5 _ rfl; (with_reducible repeat apply pK); refine blk_put (cs := #[.int .i64 a0_0, .int .i64 a0_1, .slice A0_2 l0_2.length c0_2, .int .i64 a0_3, .bool false, .bool false]) ?_ 4 _ rfl; (with_reducible repeat apply pK); refine blk_put (cs := #[.int .i64 a0_0, .int .i64 a0_1, .slice A0_2 l0_2.length c0_2, .int .i64 0, .bool false, .bool false]) ?_ 3 _ rfl; (with_reducible repeat apply pK); refine blk_put (cs := #[.int .i64 a0_0, .int .i64 a0_1, .slice none 0 0, .int .i64 0, .bool false, .bool false]) ?_ 2 _ rfl; (with_reducible repeat apply pK); refine blk_put (cs := #[.int .i64 a0_0, .int .i64 0, .slice none 0 0, .int .i64 0, .bool false, .bool false]) ?_ 1 _ rfl; (with_reducible repeat apply pK); refine blk_put (cs := #[.int .i64 0, .int .i64 0, .slice none 0 0, .int .i64 0, .bool false, .bool false]) ?_ 0 _ rfl; (with_reducible repeat apply pK); exact BK259.out) Tryd.underlying24 rfl (by kernel_rfl)) rfl ?_
    exact ⟨_, by first | rfl | (simp [errW_none, errW_some] <;> rfl) | (simp [*, errW_none, errW_some] <;> rfl), by (with_reducible repeat apply pV); exact Kd.V_mono (Kd.V_far (p := ⟨gb259, 5, none⟩) (Kd.V_far (p := ⟨gb259, 4, none⟩) (Kd.V_far (p := ⟨gb259, 3, none⟩) (Kd.V_far (p := ⟨gb259, 2, none⟩) (Kd.V_far (p := ⟨gb259, 1, none⟩) (Kd.V_far (p := ⟨gb259, 0, none⟩) (Kd.V_mono HO_259002.out (fun k_ hk => (⟨hk, hk.2.2⟩ : _ ∧ k_ ≠ gb259))) (fun _ hk => hk.2) (.int .i64 a0_0)) (fun _ hk => hk.2) (.int .i64 a0_1)) (fun _ hk => hk.2) (.slice A0_2 l0_2.length c0_2)) (fun _ hk => hk.2) (.int .i64 a0_3)) (fun _ hk => hk.2) (.bool a0_4)) (fun _ hk => hk.2) (.bool a0_5)) (fun _ hk => hk.1.1), bl_⟩
   ·replace c7 := Bool.eq_false_iff.mpr c7
    subst c7
    have H1 : (if a0_4 = true then (some (a0_0, a0_1, l0_2, a0_3, a0_4, a0_5, 7)) else ((shutterref10_Copy.f a0_0 a0_1 l0_2 a0_3 a0_4 a0_5).bind fun bt260 => ((shutterref15_To.f kj2 a0_0 a0_1 l0_2 a0_3 a0_4 a0_5 a1).bind fun t269 => (some (bt260.1, bt260.2.1, bt260.2.2.1, t269, bt260.2.2.2.2.1, bt260.2.2.2.2.2, 0))))) = some (r1, r2, r3, r4, r5, r6, r7) := by rw [if_neg (show ¬ (false = true) by decide)] at H; exact H
    clear H
    have H := H1
    clear H1
    by_cases c11 : a0_4 = true
    ·subst c11
     have H1 : (some (a0_0, a0_1, l0_2, a0_3, true, a0_5, 7)) = some (r1, r2, r3, r4, r5, r6, r7) := by rw [if_pos rfl] at H; exact H
     clear H
     have H := H1
     clear H1
     simp only [Option.some.injEq, Prod.mk.injEq] at H
     obtain ⟨rfl, rfl, rfl, rfl, rfl, rfl, rfl⟩ := H
     have hnb12 := NB258_259.out
     have hnc12 := NB259_258.out
     obtain ⟨hcz13_0, hcz13_1, hcz13_2, hcz13_3, hcz13_4, hcz13_5, hfz13_0, hfz13_1, hfz13_2, hfz13_3, hfz13_4, hfz13_5⟩ := cells6 (show wc.heap[gb258]? = some (.cells #[.int .i64 a0_0, .int .i64 a0_1, .slice A0_2 l0_2.length c0_2, .int .i64 a0_3, .bool true, .bool a0_5] _ (0, 0)) from BK258.out)
     obtain ⟨hcz14_0, hcz14_1, hcz14_2, hcz14_3, hcz14_4, hcz14_5, hfz14_0, hfz14_1, hfz14_2, hfz14_3, hfz14_4, hfz14_5⟩ := cells6 (show wc.heap[gb259]? = some (.cells #[.int .i64 0, .int .i64 0, .slice none 0 0, .int .i64 0, .bool false, .bool false] _ (0, 0)) from BK259.out)
     go_wp2
     refine bodyPost_ret (results_ct rfl _ _ gb259 24 #[.int .i64 a0_0, .int .i64 a0_1, .slice A0_2 l0_2.length c0_2, .int .i64 a0_3, .bool true, .bool a0_5] (0, 0) _ rfl (by (with_reducible repeat apply pK); refine blk_put (cs := #[.int .i64 a0_0, .int .i64 a0_1, .slice A0_2 l0_2.length c0_2, .int .i64 a0_3, .bool true, .bool false]) ?_ 5 _ rfl; (with_reducible repeat apply pK); refine blk_put (cs := #[.int .i64 a0_0, .int .i64 a0_1, .slice A0_2 l0_2.length c0_2, .int .i64 a0_3, .bool false, .bool false]) ?_ 4 _ rfl; (with_reducible repeat apply pK); refine blk_put (cs := #[.int .i64 a0_0, .int .i64 a0_1, .slice A0_2 l0_2.length c0_2, .int .i64 0, .bool false, .bool false]) ?_ 3 _ rfl; (with_reducible repeat apply pK); refine blk_put (cs := #[.int .i64 a0_0, .int .i64 a0_1, .slice none 0 0, .int .i64 0, .bool false, .bool false]) ?_ 2 _ rfl; (with_reducible repeat apply pK); refine blk_put (cs := #[.int .i64 a0_0, .int .i64 0, .slice none 0 0, .int .i64 0, .bool false, .bool false]) ?_ 1 _ rfl; (with_reducible repeat apply pK); refine blk_put (cs := #[.int .i64 0, .int .i64 0, .slice none 0 0, .int .i64 0, .bool false, .bool false]) ?_ 0 _ rfl; (with_reducible repeat apply pK); exact BK259.out) Tryd.underlying24 rfl (by kernel_rfl)) rfl ?_
     exact ⟨_, by first | rfl | (simp [errW_none, errW_some] <;> rfl) | (simp [*, errW_none, errW_some] <;> rfl), by (with_reducible repeat apply pV); exact Kd.V_mono (Kd.V_far (p := ⟨gb259, 5, none⟩) (Kd.V_far (p := ⟨gb259, 4, none⟩) (Kd.V_far (p := ⟨gb259, 3, none⟩) (Kd.V_far (p := ⟨gb259, 2, none⟩) (Kd.V_far (p := ⟨gb259, 1, none⟩) (Kd.V_far (p := ⟨gb259, 0, none⟩) (Kd.V_mono HO_259002.out (fun k_ hk => (⟨hk, hk.2.2⟩ : _ ∧ k_ ≠ gb259))) (fun _ hk => hk.2) (.int .i64 a0_0)) (fun _ hk => hk.2) (.int .i64 a0_1)) (fun _ hk => hk.2) (.slice A0_2 l0_2.length c0_2)) (fun _ hk => hk.2) (.int .i64 a0_3)) (fun _ hk => hk.2) (.bool true)) (fun _ hk => hk.2) (.bool a0_5)) (fun _ hk => hk.1.1), bl_⟩
    ·replace c11 := Bool.eq_false_iff.mpr c11
     subst c11
     have H1 : ((shutterref10_Copy.f a0_0 a0_1 l0_2 a0_3 false a0_5).bind fun bt260 => ((shutterref15_To.f kj2 a0_0 a0_1 l0_2 a0_3 false a0_5 a1).bind fun t269 => (some (bt260.1, bt260.2.1, bt260.2.2.1, t269, bt260.2.2.2.2.1, bt260.2.2.2.2.2, 0)))) = some (r1, r2, r3, r4, r5, r6, r7) := by rw [if_neg (show ¬ (false = true) by decide)] at H; exact H
     clear H
     have H := H1
     clear H1
     replace H := Option.bind_eq_some_iff.mp H
     obtain ⟨⟨t260, t261, t262, t265, t266, t267⟩, A150, H⟩ := H
     replace H : ((shutterref15_To.f kj2 a0_0 a0_1 l0_2 a0_3 false a0_5 a1).bind fun t269 => (some (t260, t261, t262, t269, t266, t267, 0))) = some (r1, r2, r3, r4, r5, r6, r7) := H
     have A15 := Aside0.mk A150
     clear A150
     replace H := Option.bind_eq_some_iff.mp H
     obtain ⟨t269, A160, H⟩ := H
     replace H : (some (t260, t261, t262, t269, t266, t267, 0)) = some (r1, r2, r3, r4, r5, r6, r7) := H
     have A16 := Aside0.mk A160
     clear A160
     simp only [Option.some.injEq, Prod.mk.injEq] at H
     obtain ⟨rfl, rfl, rfl, rfl, rfl, rfl, rfl⟩ := H
     have hnb17 := NB258_259.out
     have hnc17 := NB259_258.out
     obtain ⟨hcz18_0, hcz18_1, hcz18_2, hcz18_3, hcz18_4, hcz18_5, hfz18_0, hfz18_1, hfz18_2, hfz18_3, hfz18_4, hfz18_5⟩ := cells6 (show wc.heap[gb258]? = some (.cells #[.int .i64 a0_0, .int .i64 a0_1, .slice A0_2 l0_2.length c0_2, .int .i64 a0_3, .bool false, .bool a0_5] _ (0, 0)) from BK258.out)
     go_wp2_with (first | ((with_reducible refine gate_callee (f := 18) rfl ?_); refine goesL_ (some 18) rfl rfl Tryd.func18 (by kernel_rfl) rfl #[.agg #[.int .i64 a0_0, .int .i64 a0_1, .slice A0_2 l0_2.length c0_2, .int .i64 a0_3, .bool false, .bool a0_5]] rfl ag_ ?_; (with_reducible refine (shutterref10_Copy.calls a0_0 a0_1 _ _ l0_2 a0_3 false a0_5 t260 t261 t262 t265 t266 t267 _ ?side1 ?side2 A15.out).mono ?_); (case side1 => repeat (first | exact (Kd.V_reads' HO_259002.out).2.2 | (with_reducible apply pC))); (case side2 => exact (Kd.V_reads' HO_259002.out).2.1); rintro e w19 ⟨v263, rfl, ho0, hb⟩; refine ⟨_, rfl, ?_⟩; have n0_ := Aside0.mk (Kd.V_elder' (by (with_reducible repeat apply pV); exact HO_259002.out) (Kd.R_base ho0) hb); have n1_ := Aside0.mk (Kd.R_lower (Kd.R_newM (M := fun k_ => (w.heap.size ≤ k_)) ho0 (below_size bl_) (fun k_ h_ => h_)) (below_size bl_)); have n2_ := Aside0.mk (blk_below (g := gb258) (o := .cells #[.int .i64 a0_0, .int .i64 a0_1, .slice A0_2 l0_2.length c0_2, .int .i64 a0_3, .bool false, .bool a0_5] 24 (0, 0)) (by (with_reducible repeat apply pK); exact BK258.out) hb); have n3_ := Aside0.mk (blk_below (g := gb259) (o := .cells #[.int .i64 0, .int .i64 0, .slice none 0 0, .int .i64 0, .bool false, .bool false] 24 (0, 0)) (by (with_reducible repeat apply pK); exact BK259.out) hb); have n4_ := Aside0.mk (below_step bl_ hb); clear HO_259002; clear BK258; clear BK259; clear HB; have HO_259002 := n0_; have HO264 := n1_; have BK258 := n2_; have BK259 := n3_; have HB := n4_; clear n0_ n1_ n2_ n3_ n4_; (try clear hb); (try clear hb2); (try clear hk); (try clear hi); (try clear ho0)) | ((with_reducible refine gate_dst (N := 6) rfl ?_); refine box_event ?hg (N := 6) ?hd (cs := #[.int .i64 0, .int .i64 0, .slice none 0 0, .int .i64 0, .bool false, .bool false]) (t := 24) ?hr ?_; (case hd => rfl); (case hg => rfl); (case hr => first | (go_simp; done) | (go_simp; rfl)); intro gb268 hg w20 hbox hb; have n0_ := Aside0.mk (Kd.V_below (Kd.V_elderB (by (with_reducible repeat apply pV); exact HO_259002.out) gb268 (Nat.le_of_eq hg.symm)) hb); have n1_ := Aside0.mk (Kd.R_below (by (with_reducible repeat apply pR); exact HO264.out) hb); have n2_ := Aside0.mk (blk_below (g := gb258) (o := .cells #[.int .i64 a0_0, .int .i64 a0_1, .slice A0_2 l0_2.length c0_2, .int .i64 a0_3, .bool false, .bool a0_5] 24 (0, 0)) (by (with_reducible repeat apply pK); exact BK258.out) hb); have n3_ := Aside0.mk (blk_below (g := gb259) (o := .cells #[.int .i64 0, .int .i64 0, .slice none 0 0, .int .i64 0, .bool false, .bool false] 24 (0, 0)) (by (with_reducible repeat apply pK); exact BK259.out) hb); have n4_ := Aside0.mk (below_step bl_ hb); have n5_ := Aside0.mk (hbox); have n6_ := Aside0.mk ((le_new hg (below_size bl_) : w.heap.size ≤ gb268)); have n7_ := Aside0.mk ((le_new hg (below_size bl_) : w.heap.size ≤ gb268)); have n8_ := Aside0.mk ((by rw [hg]; exact Nat.ne_of_lt (blk_lt (g := gb258) (o := .cells #[.int .i64 a0_0, .int .i64 a0_1, .slice A0_2 l0_2.length c0_2, .int .i64 a0_3, .bool false, .bool a0_5] 24 (0, 0)) (by (with_reducible repeat apply pK); exact BK258.out)) : gb258 ≠ gb268)); have n9_ := Aside0.mk ((by rw [hg]; exact Nat.ne_of_gt (blk_lt (g := gb258) (o := .cells #[.int .i64 a0_0, .int .i64 a0_1, .slice A0_2 l0_2.length c0_2, .int .i64 a0_3, .bool false, .bool a0_5] 24 (0, 0)) (by (with_reducible repeat apply pK); exact BK258.out)) : gb268 ≠ gb258)); have n10_ := Aside0.mk ((by rw [hg]; exact Nat.ne_of_lt (blk_lt (g := gb259) (o := .cells #[.int .i64 0, .int .i64 0, .slice none 0 0, .int .i64 0, .bool false, .bool false] 24 (0, 0)) (by (with_reducible repeat apply pK); exact BK259.out)) : gb259 ≠ gb268)); have n11_ := Aside0.mk ((by rw [hg]; exact Nat.ne_of_gt (blk_lt (g := gb259) (o := .cells #[.int .i64 0, .int .i64 0, .slice none 0 0, .int .i64 0, .bool false, .bool false] 24 (0, 0)) (by (with_reducible repeat apply pK); exact BK259.out)) : gb268 ≠ gb259)); clear HO_259002; clear HO264; clear BK258; clear BK259; clear HB; have HO_259002 := n0_; have HO264 := n1_; have BK258 := n2_; have BK259 := n3_; have HB := n4_; have BK268 := n5_; have GW268 := n6_; have GE268 := n7_; have NB258_268 := n8_; have NB268_258 := n9_; have NB259_268 := n10_; have NB268_259 := n11_; clear n0_ n1_ n2_ n3_ n4_ n5_ n6_ n7_ n8_ n9_ n10_ n11_; clear hb hbox hg; have hnb21 := NB268_258.out; have hnc21 := NB258_268.out; have hnb22 := NB268_259.out; have hnc22 := NB259_268.out; obtain ⟨hcz23_0, hcz23_1, hcz23_2, hcz23_3, hcz23_4, hcz23_5, hfz23_0, hfz23_1, hfz23_2, hfz23_3, hfz23_4, hfz23_5⟩ := cells6 (show w20.heap[gb268]? = some (.cells #[.int .i64 0, .int .i64 0, .slice none 0 0, .int .i64 0, .bool false, .bool false] _ (0, 0)) from BK268.out); obtain ⟨Ao24, co24, eo24⟩ := Kd.R_slice HO264.out; subst eo24; obtain ⟨hcz25_0, hcz25_1, hcz25_2, hcz25_3, hcz25_4, hcz25_5, hfz25_0, hfz25_1, hfz25_2, hfz25_3, hfz25_4, hfz25_5⟩ := cells6 (show w20.heap[gb258]? = some (.cells #[.int .i64 a0_0, .int .i64 a0_1, .slice A0_2 l0_2.length c0_2, .int .i64 a0_3, .bool false, .bool a0_5] _ (0, 0)) from BK258.out)) | ((with_reducible refine gate_callee (f := 21) rfl ?_); refine goesL_ (some 21) rfl rfl Tryd.func21 (by kernel_rfl) rfl #[.agg #[.int .i64 a0_0, .int .i64 a0_1, .slice A0_2 l0_2.length c0_2, .int .i64 a0_3, .bool false, .bool a0_5], .int .i64 a1] rfl ag_ ?_; (with_reducible refine (shutterref15_To.calls kj2 a0_0 a0_1 _ _ l0_2 a0_3 false a0_5 a1 t269 _ ?side1 ?side2 A16.out).mono ?_); (case side1 => refine (Kd.V_reads' (e := 44) (base := w.heap.size) (ok := fun k_ => (((((P0_2_ k_ ∨ w.heap.size ≤ k_)) ∧ (k_ ≠ gb258 ∧ k_ ≠ gb259)) ∧ some k_ ≠ (.slice Ao24 t262.length co24 : Value).ownBlock) ∧ k_ ≠ gb268)) (n := l0_2.length) (c := c0_2) ?_).2.2; exact (by (with_reducible repeat apply pV); exact (Kd.V_mono (Kd.V_far (p := ⟨gb268, 5, none⟩) (Kd.V_far (p := ⟨gb268, 4, none⟩) (Kd.V_far (p := ⟨gb268, 3, none⟩) (Kd.V_far (p := ⟨gb268, 2, none⟩) (Kd.V_far (p := ⟨gb268, 1, none⟩) (Kd.V_far (p := ⟨gb268, 0, none⟩) (Kd.V_mono HO_259002.out (fun k_ hk => (⟨hk, hk.2⟩ : _ ∧ k_ ≠ gb268))) (fun _ hk => hk.2) (.int .i64 t260)) (fun _ hk => hk.2) (.int .i64 t261)) (fun _ hk => hk.2) (.slice Ao24 t262.length co24)) (fun _ hk => hk.2) (.int .i64 t265)) (fun _ hk => hk.2) (.bool t266)) (fun _ hk => hk.2) (.bool t267)) (fun _ h_ => h_.1)))); (case side2 => exact (Kd.V_reads' HO_259002.out).2.1); rintro e w26 ⟨rfl, hb⟩; refine ⟨_, rfl, ?_⟩; have n0_ := Aside0.mk (Kd.V_below (by (with_reducible repeat apply pV); exact (Kd.V_mono (Kd.V_far (p := ⟨gb268, 5, none⟩) (Kd.V_far (p := ⟨gb268, 4, none⟩) (Kd.V_far (p := ⟨gb268, 3, none⟩) (Kd.V_far (p := ⟨gb268, 2, none⟩) (Kd.V_far (p := ⟨gb268, 1, none⟩) (Kd.V_far (p := ⟨gb268, 0, none⟩) (Kd.V_mono HO_259002.out (fun k_ hk => (⟨hk, hk.2⟩ : _ ∧ k_ ≠ gb268))) (fun _ hk => hk.2) (.int .i64 t260)) (fun _ hk => hk.2) (.int .i64 t261)) (fun _ hk => hk.2) (.slice Ao24 t262.length co24)) (fun _ hk => hk.2) (.int .i64 t265)) (fun _ hk => hk.2) (.bool t266)) (fun _ hk => hk.2) (.bool t267)) (fun _ h_ => h_.1))) hb); have n1_ := Aside0.mk (Kd.R_below (by (with_reducible repeat apply pR); exact (Kd.R_mono (Kd.R_far (p := ⟨gb268, 5, none⟩) (Kd.R_far (p := ⟨gb268, 4, none⟩) (Kd.R_far (p := ⟨gb268, 3, none⟩) (Kd.R_far (p := ⟨gb268, 2, none⟩) (Kd.R_far (p := ⟨gb268, 1, none⟩) (Kd.R_far (p := ⟨gb268, 0, none⟩) (Kd.R_types HO264.out BK268.out (by decide)) (fun _ hk => hk.2) (.int .i64 t260)) (fun _ hk => hk.2) (.int .i64 t261)) (fun _ hk => hk.2) (.slice Ao24 t262.length co24)) (fun _ hk => hk.2) (.int .i64 t265)) (fun _ hk => hk.2) (.bool t266)) (fun _ hk => hk.2) (.bool t267)) (fun _ h_ => h_.1))) hb); have n2_ := Aside0.mk (blk_below (g := gb258) (o := .cells #[.int .i64 a0_0, .int .i64 a0_1, .slice A0_2 l0_2.length c0_2, .int .i64 a0_3, .bool false, .bool a0_5] 24 (0, 0)) (by (with_reducible repeat apply pK); refine blk_far ?_ NB258_268.out _; (with_reducible repeat apply pK); refine blk_far ?_ NB258_268.out _; (with_reducible repeat apply pK); refine blk_far ?_ NB258_268.out _; (with_reducible repeat apply pK); refine blk_far ?_ NB258_268.out _; (with_reducible repeat apply pK); refine blk_far ?_ NB258_268.out _; (with_reducible repeat apply pK); refine blk_far ?_ NB258_268.out _; (with_reducible repeat apply pK); exact BK258.out) hb); have n3_ := Aside0.mk (blk_below (g := gb259) (o := .cells #[.int .i64 0, .int .i64 0, .slice none 0 0, .int .i64 0, .bool false, .bool false] 24 (0, 0)) (by (with_reducible repeat apply pK); refine blk_far ?_ NB259_268.out _; (with_reducible repeat apply pK); refine blk_far ?_ NB259_268.out _; (with_reducible repeat apply pK); refine blk_far ?_ NB259_268.out _; (with_reducible repeat apply pK); refine blk_far ?_ NB259_268.out _; (with_reducible repeat apply pK); refine blk_far ?_ NB259_268.out _; (with_reducible repeat apply pK); refine blk_far ?_ NB259_268.out _; (with_reducible repeat apply pK); exact BK259.out) hb); have n4_ := Aside0.mk (blk_below (g := gb268) (o := .cells #[.int .i64 t260, .int .i64 t261, .slice Ao24 t262.length co24, .int .i64 t265, .bool t266, .bool t267] 24 (0, 0)) (by (with_reducible repeat apply pK); refine blk_put (cs := #[.int .i64 t260, .int .i64 t261, .slice Ao24 t262.length co24, .int .i64 t265, .bool t266, .bool false]) ?_ 5 _ rfl; (with_reducible repeat apply pK); refine blk_put (cs := #[.int .i64 t260, .int .i64 t261, .slice Ao24 t262.length co24, .int .i64 t265, .bool false, .bool false]) ?_ 4 _ rfl; (with_reducible repeat apply pK); refine blk_put (cs := #[.int .i64 t260, .int .i64 t261, .slice Ao24 t262.length co24, .int .i64 0, .bool false, .bool false]) ?_ 3 _ rfl; (with_reducible repeat apply pK); refine blk_put (cs := #[.int .i64 t260, .int .i64 t261, .slice none 0 0, .int .i64 0, .bool false, .bool false]) ?_ 2 _ rfl; (with_reducible repeat apply pK); refine blk_put (cs := #[.int .i64 t260, .int .i64 0, .slice none 0 0, .int .i64 0, .bool false, .bool false]) ?_ 1 _ rfl; (with_reducible repeat apply pK); refine blk_put (cs := #[.int .i64 0, .int .i64 0, .slice none 0 0, .int .i64 0, .bool false, .bool false]) ?_ 0 _ rfl; (with_reducible repeat apply pK); exact BK268.out) hb); have n5_ := Aside0.mk (below_step bl_ hb); clear HO_259002; clear HO264; clear BK258; clear BK259; clear BK268; clear HB; have HO_259002 := n0_; have HO264 := n1_; have BK258 := n2_; have BK259 := n3_; have BK268 := n4_; have HB := n5_; clear n0_ n1_ n2_ n3_ n4_ n5_; (try clear hb); (try clear hb2); (try clear hk); (try clear hi); obtain ⟨hcz27_0, hcz27_1, hcz27_2, hcz27_3, hcz27_4, hcz27_5, hfz27_0, hfz27_1, hfz27_2, hfz27_3, hfz27_4, hfz27_5⟩ := cells6 (show w26.heap[gb268]? = some (.cells #[.int .i64 t260, .int .i64 t261, .slice Ao24 t262.length co24, .int .i64 t265, .bool t266, .bool t267] _ (0, 0)) from BK268.out); obtain ⟨hcz28_0, hcz28_1, hcz28_2, hcz28_3, hcz28_4, hcz28_5, hfz28_0, hfz28_1, hfz28_2, hfz28_3, hfz28_4, hfz28_5⟩ := cells6 (show w26.heap[gb259]? = some (.cells #[.int .i64 0, .int .i64 0, .slice none 0 0, .int .i64 0, .bool false, .bool false] _ (0, 0)) from BK259.out)))
     refine bodyPost_ret (results_ct rfl _ _ gb259 24 #[.int .i64 t260, .int .i64 t261, .slice Ao24 t262.length co24, .int .i64 t269, .bool t266, .bool t267] (0, 0) _ rfl (by (with_reducible repeat apply pK); refine blk_put (cs := #[.int .i64 t260, .int .i64 t261, .slice Ao24 t262.length co24, .int .i64 t269, .bool t266, .bool false]) ?_ 5 _ rfl; (with_reducible repeat apply pK); refine blk_put (cs := #[.int .i64 t260, .int .i64 t261, .slice Ao24 t262.length co24, .int .i64 t269, .bool false, .bool false]) ?_ 4 _ rfl; (with_reducible repeat apply pK); refine blk_put (cs := #[.int .i64 t260, .int .i64 t261, .slice Ao24 t262.length co24, .int .i64 0, .bool false, .bool false]) ?_ 3 _ rfl; (with_reducible repeat apply pK); refine blk_put (cs := #[.int .i64 t260, .int .i64 t261, .slice none 0 0, .int .i64 0, .bool false, .bool false]) ?_ 2 _ rfl; (with_reducible repeat apply pK); refine blk_put (cs := #[.int .i64 t260, .int .i64 0, .slice none 0 0, .int .i64 0, .bool false, .bool false]) ?_ 1 _ rfl; (with_reducible repeat apply pK); refine blk_put (cs := #[.int .i64 0, .int .i64 0, .slice none 0 0, .int .i64 0, .bool false, .bool false]) ?_ 0 _ rfl; (with_reducible repeat apply pK); refine blk_far ?_ NB259_268.out _; (with_reducible repeat apply pK); exact BK259.out) Tryd.underlying24 rfl (by kernel_rfl)) rfl ?_
     exact ⟨_, by first | rfl | (simp [errW_none, errW_some] <;> rfl) | (simp [*, errW_none, errW_some] <;> rfl), Kd.V_mono (Kd.R_V (by (with_reducible repeat apply pR); exact Kd.R_mono (Kd.R_far (p := ⟨gb259, 5, none⟩) (Kd.R_far (p := ⟨gb259, 4, none⟩) (Kd.R_far (p := ⟨gb259, 3, none⟩) (Kd.R_far (p := ⟨gb259, 2, none⟩) (Kd.R_far (p := ⟨gb259, 1, none⟩) (Kd.R_far (p := ⟨gb259, 0, none⟩) (Kd.R_far (p := ⟨gb268, 3, none⟩) (Kd.R_types (Kd.R_types HO264.out BK268.out (by decide)) BK259.out (by decide)) (fun _ hk => hk.1.2) (.int .i64 t269)) (fun _ hk => hk.2) (.int .i64 t260)) (fun _ hk => hk.2) (.int .i64 t261)) (fun _ hk => hk.2) (.slice Ao24 t262.length co24)) (fun _ hk => hk.2) (.int .i64 t269)) (fun _ hk => hk.2) (.bool t266)) (fun _ hk => hk.2) (.bool t267)) (fun _ hk => hk.1.1.1))) (fun k_ hk => by first | exact ⟨(.inr (hk.1)), hk.2⟩ | exact (.inr (hk))), bl_⟩

end Go.Proofs.YtapcfcagjlmgjaaDoor.P
