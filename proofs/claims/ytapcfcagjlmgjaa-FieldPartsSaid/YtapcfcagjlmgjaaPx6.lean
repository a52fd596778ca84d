/- The functions of the seat's laws as plain Lean functions, and that Go's code comes to just their answers. Written by pp.py (wip/tools), a program of this session, on the kit's print. -/
import Derived.Test.YtapcfcagjlmgjaaPx0
import Derived.Test.YtapcfcagjlmgjaaPx5
namespace Go.Proofs.Ytapcfcagjlmgjaa.P
open Go.RowKit Go.Proofs.YtapcfcagjlmgjaaW.PrintWords Go.Proofs.YtapcfcagjlmgjaaW.PrintLast Go.Proofs.YtapcfcagjlmgjaaW.PrintMore
attribute [local go_sem] max2_int min2_int max_two min_two max_three min_three max_four min_four   -- for this text's walks alone
attribute [local go_sem] Instr.field asAgg
set_option linter.unusedVariables false
set_option linter.unusedSimpArgs false

/-! ### shutterref10_Right: function 30 -/
mutual
def shutterref10_Right.j0 : Nat → Bool → Int → Int → List (S39) → Int → Bool → Bool → Option (Bool)
  | 0, _, _, _, _, _, _, _ => none
  | k + 1, x33, x149000, x149001, x149002, x149003, x149004, x149005 => if x33 = true then (some false) else (shutterref10_Right.l0 k 0 x149000 x149001 x149002 x149003 x149004 x149005)
def shutterref10_Right.l0 : Nat → Int → Int → Int → List (S39) → Int → Bool → Bool → Option (Bool)
  | 0, _, _, _, _, _, _, _ => none
  | k + 1, x3, x149000, x149001, x149002, x149003, x149004, x149005 => if x3 < (x149002.length : Int) then (if 0 ≤ x3 then ((shutterref10_Cell.f ((rd_T39 x149002 x3).f0) ((rd_T39 x149002 x3).f1.f0) ((rd_T39 x149002 x3).f1.f1) ((rd_T39 x149002 x3).f1.f2) ((rd_T39 x149002 x3).f1.f3) ((rd_T39 x149002 x3).f2)).bind fun t151 => (if t151 = true then (shutterref10_Right.l0 k (wrap64 (x3 + 1)) x149000 x149001 x149002 x149003 x149004 x149005) else (some false))) else (none)) else (some true)
end
def shutterref10_Right.f (k : Nat) (a0_0 : Int) (a0_1 : Int) (l0_2 : List (S39)) (a0_3 : Int) (a0_4 : Bool) (a0_5 : Bool) : Option (Bool) := (shutterref10_Sized.f a0_0 a0_1).bind fun t149 => (if t149 = true then (if (l0_2.length : Int) = (wrap64 (a0_0 * a0_1)) then (if a0_3 < 0 then (shutterref10_Right.j0 k true a0_0 a0_1 l0_2 a0_3 a0_4 a0_5) else (shutterref10_Right.j0 k (decide (a0_3 ≥ (l0_2.length : Int))) a0_0 a0_1 l0_2 a0_3 a0_4 a0_5)) else (shutterref10_Right.j0 k true a0_0 a0_1 l0_2 a0_3 a0_4 a0_5)) else (shutterref10_Right.j0 k true a0_0 a0_1 l0_2 a0_3 a0_4 a0_5))
theorem shutterref10_Right.mono_l : ∀ k, (∀ y0 y1 y2 y3 y4 y5 y6, LeO (shutterref10_Right.j0 k y0 y1 y2 y3 y4 y5 y6) (shutterref10_Right.j0 (k + 1) y0 y1 y2 y3 y4 y5 y6)) ∧ (∀ y0 y1 y2 y3 y4 y5 y6, LeO (shutterref10_Right.l0 k y0 y1 y2 y3 y4 y5 y6) (shutterref10_Right.l0 (k + 1) y0 y1 y2 y3 y4 y5 y6))
  | 0 => ⟨fun _ _ _ _ _ _ _ r h => by simp [shutterref10_Right.j0] at h, fun _ _ _ _ _ _ _ r h => by simp [shutterref10_Right.l0] at h⟩
  | k + 1 => by
    obtain ⟨ih0, ih1⟩ := shutterref10_Right.mono_l k
    refine ⟨?_, ?_⟩
    · intro y0 y1 y2 y3 y4 y5 y6
      unfold shutterref10_Right.j0
      repeat' first
      | (with_reducible exact ih0 _ _ _ _ _ _ _)
      | (with_reducible exact ih1 _ _ _ _ _ _ _)
      | (with_reducible exact LeO.refl _)
      | (with_reducible exact LeO.none _)
      | (with_reducible refine LeO.ite ?_ ?_)
      | (with_reducible refine LeO.bind ?_ (fun _ => ?_))
      | exact ih0 _ _ _ _ _ _ _
      | exact ih1 _ _ _ _ _ _ _
      | exact LeO.none _
      | refine LeO.ite ?_ ?_
      | refine LeO.bind ?_ (fun _ => ?_)
    · intro y0 y1 y2 y3 y4 y5 y6
      unfold shutterref10_Right.l0
      repeat' first
      | (with_reducible exact ih0 _ _ _ _ _ _ _)
      | (with_reducible exact ih1 _ _ _ _ _ _ _)
      | (with_reducible exact LeO.refl _)
      | (with_reducible exact LeO.none _)
      | (with_reducible refine LeO.ite ?_ ?_)
      | (with_reducible refine LeO.bind ?_ (fun _ => ?_))
      | exact ih0 _ _ _ _ _ _ _
      | exact ih1 _ _ _ _ _ _ _
      | exact LeO.none _
      | refine LeO.ite ?_ ?_
      | refine LeO.bind ?_ (fun _ => ?_)
theorem shutterref10_Right.mono : ∀ a0 a1 a2 a3 a4 a5 k, LeO (shutterref10_Right.f k a0 a1 a2 a3 a4 a5) (shutterref10_Right.f (k + 1) a0 a1 a2 a3 a4 a5) := by
  intro a0 a1 a2 a3 a4 a5 k
  obtain ⟨ih0, ih1⟩ := shutterref10_Right.mono_l k
  unfold shutterref10_Right.f
  repeat' first
      | (with_reducible exact ih0 _ _ _ _ _ _ _)
      | (with_reducible exact ih1 _ _ _ _ _ _ _)
      | (with_reducible exact LeO.refl _)
      | (with_reducible exact LeO.none _)
      | (with_reducible refine LeO.ite ?_ ?_)
      | (with_reducible refine LeO.bind ?_ (fun _ => ?_))
      | exact ih0 _ _ _ _ _ _ _
      | exact ih1 _ _ _ _ _ _ _
      | exact LeO.none _
      | refine LeO.ite ?_ ?_
      | refine LeO.bind ?_ (fun _ => ?_)
set_option maxHeartbeats 8000000 in
set_option maxRecDepth 100000 in
theorem shutterref10_Right.calls (k : Nat) (a0_0 : Int) (a0_1 : Int) (A0_2 : Option Addr) (c0_2 : Nat) (l0_2 : List (S39)) (a0_3 : Int) (a0_4 : Bool) (a0_5 : Bool) (r : Bool) (w : World) (hr0_2 : Kd.C k39 w A0_2 l0_2.length l0_2) (hc0_2 : l0_2.length ≤ c0_2) (h : shutterref10_Right.f k a0_0 a0_1 l0_2 a0_3 a0_4 a0_5 = some r) :
    Calls Try.prog 30 #[.agg #[.int .i64 a0_0, .int .i64 a0_1, .slice A0_2 l0_2.length c0_2, .int .i64 a0_3, .bool a0_4, .bool a0_5]] w fun e w' => e = .returned (.bool r) ∧ Below w.heap.size w w' := by
  have hu24 := Try.underlying24
  have hu39 := Try.underlying39
  have HR0_2 := Aside0.mk hr0_2
  have HC0_2 := Aside0.mk hc0_2
  clear hr0_2 hc0_2
  have HB := Aside0.mk (Below.refl w.heap.size w)
  have H : ((shutterref10_Sized.f a0_0 a0_1).bind fun t149 => (if t149 = true then (if (l0_2.length : Int) = (wrap64 (a0_0 * a0_1)) then (if a0_3 < 0 then (shutterref10_Right.j0 k true a0_0 a0_1 l0_2 a0_3 a0_4 a0_5) else (shutterref10_Right.j0 k (decide (a0_3 ≥ (l0_2.length : Int))) a0_0 a0_1 l0_2 a0_3 a0_4 a0_5)) else (shutterref10_Right.j0 k true a0_0 a0_1 l0_2 a0_3 a0_4 a0_5)) else (shutterref10_Right.j0 k true a0_0 a0_1 l0_2 a0_3 a0_4 a0_5))) = some r := h
  clear h
  have HC2 := Aside0.mk H
  clear H
  go_enter Try.func30, Try.ntmps30
  go_upto_region 1 with (first | ((with_reducible refine gate_dst (N := 1) rfl ?_); (try (refine gate_guard (by rfl) ?_; dsimp only)); refine box_event ?hg (N := 1) ?hd (cs := #[.int .i64 a0_0, .int .i64 a0_1, .slice A0_2 l0_2.length c0_2, .int .i64 a0_3, .bool a0_4, .bool a0_5]) (t := 24) ?hr ?_; (case hd => rfl); (case hg => rfl); (case hr => first | (go_simp; done) | (go_simp; rfl)); intro gb148 hg w3 hbox hb; have n0_ := Aside0.mk (below_step (by repeat (first | (with_reducible first | exact HB.out | apply below_alloc | apply pw_below_drewN | apply below_drew1) | exact HB.out)) hb); have n1_ := Aside0.mk (hbox); have n2_ := Aside0.mk ((by rw [hg]; exact (below_size (by repeat (first | (with_reducible first | exact HB.out | apply below_alloc | apply pw_below_drewN | apply below_drew1) | exact HB.out))) : w.heap.size ≤ gb148)); have n3_ := Aside0.mk ((by rw [hg]; exact (below_size (by repeat (first | (with_reducible first | exact HB.out | apply below_alloc | apply pw_below_drewN | apply below_drew1) | exact HB.out))) : w.heap.size ≤ gb148)); clear HB; have HB := n0_; have BK148 := n1_; have GW148 := n2_; have GE148 := n3_; clear n0_ n1_ n2_ n3_; clear hb hbox hg))
  (try simp only [Act.put, List.setIfInBounds_toArray, List.set_cons_zero, List.set_cons_succ])
  go_cut [33] (fun v33 wc => ∃ (kq : Nat) (x33_1 : Bool), v33 = .bool x33_1 ∧ Aside0 (shutterref10_Right.j0 kq x33_1 a0_0 a0_1 l0_2 a0_3 a0_4 a0_5 = some r) ∧ Aside0 (kq ≤ k) ∧ Aside0 (wc.heap[gb148]? = some (.cells #[.int .i64 a0_0, .int .i64 a0_1, (.slice A0_2 l0_2.length c0_2), .int .i64 a0_3, .bool a0_4, .bool a0_5] 24 (0, 0))) ∧ Aside0 (Below w.heap.size w wc))
  case first =>
    have H := HC2.out
    clear HC2
    replace H := Option.bind_eq_some_iff.mp H
    obtain ⟨t149, A40, H⟩ := H
    replace H : (if t149 = true then (if (l0_2.length : Int) = (wrap64 (a0_0 * a0_1)) then (if a0_3 < 0 then (shutterref10_Right.j0 k true a0_0 a0_1 l0_2 a0_3 a0_4 a0_5) else (shutterref10_Right.j0 k (decide (a0_3 ≥ (l0_2.length : Int))) a0_0 a0_1 l0_2 a0_3 a0_4 a0_5)) else (shutterref10_Right.j0 k true a0_0 a0_1 l0_2 a0_3 a0_4 a0_5)) else (shutterref10_Right.j0 k true a0_0 a0_1 l0_2 a0_3 a0_4 a0_5)) = some r := H
    have A4 := Aside0.mk A40
    clear A40
    by_cases c5 : t149 = true
    · subst c5
      have H1 : (if (l0_2.length : Int) = (wrap64 (a0_0 * a0_1)) then (if a0_3 < 0 then (shutterref10_Right.j0 k true a0_0 a0_1 l0_2 a0_3 a0_4 a0_5) else (shutterref10_Right.j0 k (decide (a0_3 ≥ (l0_2.length : Int))) a0_0 a0_1 l0_2 a0_3 a0_4 a0_5)) else (shutterref10_Right.j0 k true a0_0 a0_1 l0_2 a0_3 a0_4 a0_5)) = some r := by rw [if_pos rfl] at H; exact H
      clear H
      have H := H1
      clear H1
      by_cases c6 : (l0_2.length : Int) = (wrap64 (a0_0 * a0_1))
      · rw [if_pos c6] at H
        have c6b0 : ((l0_2.length : Int) == (wrap64 (a0_0 * a0_1))) = true := beq_iff_eq.mpr c6
        have c6b1 : ((l0_2.length : Int) != (wrap64 (a0_0 * a0_1))) = false := bne_eq_false_iff_eq.mpr c6
        clear c6
        (first | rw [c6b0] | (simp only [i64_w, i32_w]; rw [c6b0]) | skip)
        by_cases c7 : a0_3 < 0
        · rw [if_pos c7] at H
          have c7b0 : decide (a0_3 < 0) = true := decide_eq_true c7
          clear c7
          have H' := Aside0.mk H
          clear H
          have hcz8_0 : w3.cell? ⟨gb148, 0, none⟩ = some (.int .i64 a0_0) := (blk_cell BK148.out 0).trans rfl
          have hcz8_1 : w3.cell? ⟨gb148, 1, none⟩ = some (.int .i64 a0_1) := (blk_cell BK148.out 1).trans rfl
          have hcz8_2 : w3.cell? ⟨gb148, 2, none⟩ = some (.slice A0_2 l0_2.length c0_2) := (blk_cell BK148.out 2).trans rfl
          have hcz8_3 : w3.cell? ⟨gb148, 3, none⟩ = some (.int .i64 a0_3) := (blk_cell BK148.out 3).trans rfl
          have hcz8_4 : w3.cell? ⟨gb148, 4, none⟩ = some (.bool a0_4) := (blk_cell BK148.out 4).trans rfl
          have hcz8_5 : w3.cell? ⟨gb148, 5, none⟩ = some (.bool a0_5) := (blk_cell BK148.out 5).trans rfl
          have hfz8_0 := blk_frozen BK148.out 0
          have hfz8_1 := blk_frozen BK148.out 1
          have hfz8_2 := blk_frozen BK148.out 2
          have hfz8_3 := blk_frozen BK148.out 3
          have hfz8_4 := blk_frozen BK148.out 4
          have hfz8_5 := blk_frozen BK148.out 5
          go_wp2_with (first | ((with_reducible refine gate_callee (f := 37) rfl ?_); refine goesL_ (some 8) rfl rfl Try.func37 (by kernel_rfl) rfl #[.int .i64 a0_0, .int .i64 a0_1] rfl (by (try simp only [List.map_toArray, List.map_cons, List.map_nil]); first | done | rfl | (simp only [List.length_drop, List.length_take]; rfl)) ?_; (with_reducible refine (shutterref10_Sized.calls a0_0 a0_1 true _ A4.out).mono ?_); rintro e w' ⟨rfl, ⟨nd, rfl⟩⟩; refine ⟨_, rfl, ?_⟩))
          go_meet
          case rel => exact ⟨_, (true), (by first | rfl | (simp; done) | (simp [*]; done)), H', ⟨by first | omega | exact Nat.le_refl _⟩, ⟨by (with_reducible repeat (first | refine blk_drewN ?_ _ | refine blk_drew ?_ | refine blk_alloc ?_ _)); exact BK148.out⟩, ⟨by repeat (first | (with_reducible first | exact HB.out | apply below_alloc | apply pw_below_drewN | apply below_drew1 | refine below_set ?_ GE148.out) | exact HB.out)⟩⟩
        · rw [if_neg c7] at H
          have c7b0 : decide (a0_3 < 0) = false := decide_eq_false c7
          clear c7
          have H' := Aside0.mk H
          clear H
          have hcz9_0 : w3.cell? ⟨gb148, 0, none⟩ = some (.int .i64 a0_0) := (blk_cell BK148.out 0).trans rfl
          have hcz9_1 : w3.cell? ⟨gb148, 1, none⟩ = some (.int .i64 a0_1) := (blk_cell BK148.out 1).trans rfl
          have hcz9_2 : w3.cell? ⟨gb148, 2, none⟩ = some (.slice A0_2 l0_2.length c0_2) := (blk_cell BK148.out 2).trans rfl
          have hcz9_3 : w3.cell? ⟨gb148, 3, none⟩ = some (.int .i64 a0_3) := (blk_cell BK148.out 3).trans rfl
          have hcz9_4 : w3.cell? ⟨gb148, 4, none⟩ = some (.bool a0_4) := (blk_cell BK148.out 4).trans rfl
          have hcz9_5 : w3.cell? ⟨gb148, 5, none⟩ = some (.bool a0_5) := (blk_cell BK148.out 5).trans rfl
          have hfz9_0 := blk_frozen BK148.out 0
          have hfz9_1 := blk_frozen BK148.out 1
          have hfz9_2 := blk_frozen BK148.out 2
          have hfz9_3 := blk_frozen BK148.out 3
          have hfz9_4 := blk_frozen BK148.out 4
          have hfz9_5 := blk_frozen BK148.out 5
          go_wp2_with (first | ((with_reducible refine gate_callee (f := 37) rfl ?_); refine goesL_ (some 8) rfl rfl Try.func37 (by kernel_rfl) rfl #[.int .i64 a0_0, .int .i64 a0_1] rfl (by (try simp only [List.map_toArray, List.map_cons, List.map_nil]); first | done | rfl | (simp only [List.length_drop, List.length_take]; rfl)) ?_; (with_reducible refine (shutterref10_Sized.calls a0_0 a0_1 true _ A4.out).mono ?_); rintro e w' ⟨rfl, ⟨nd, rfl⟩⟩; refine ⟨_, rfl, ?_⟩))
          go_meet
          case rel => exact ⟨_, (decide (a0_3 ≥ (l0_2.length : Int))), (by first | rfl | (simp; done) | (simp [*]; done)), H', ⟨by first | omega | exact Nat.le_refl _⟩, ⟨by (with_reducible repeat (first | refine blk_drewN ?_ _ | refine blk_drew ?_ | refine blk_alloc ?_ _)); exact BK148.out⟩, ⟨by repeat (first | (with_reducible first | exact HB.out | apply below_alloc | apply pw_below_drewN | apply below_drew1 | refine below_set ?_ GE148.out) | exact HB.out)⟩⟩
      · rw [if_neg c6] at H
        have c6b0 : ((l0_2.length : Int) == (wrap64 (a0_0 * a0_1))) = false := beq_eq_false_iff_ne.mpr c6
        have c6b1 : ((l0_2.length : Int) != (wrap64 (a0_0 * a0_1))) = true := bne_iff_ne.mpr c6
        (first | rw [c6b0] | (simp only [i64_w, i32_w]; rw [c6b0]) | skip)
        have H' := Aside0.mk H
        clear H
        have hcz10_0 : w3.cell? ⟨gb148, 0, none⟩ = some (.int .i64 a0_0) := (blk_cell BK148.out 0).trans rfl
        have hcz10_1 : w3.cell? ⟨gb148, 1, none⟩ = some (.int .i64 a0_1) := (blk_cell BK148.out 1).trans rfl
        have hcz10_2 : w3.cell? ⟨gb148, 2, none⟩ = some (.slice A0_2 l0_2.length c0_2) := (blk_cell BK148.out 2).trans rfl
        have hcz10_3 : w3.cell? ⟨gb148, 3, none⟩ = some (.int .i64 a0_3) := (blk_cell BK148.out 3).trans rfl
        have hcz10_4 : w3.cell? ⟨gb148, 4, none⟩ = some (.bool a0_4) := (blk_cell BK148.out 4).trans rfl
        have hcz10_5 : w3.cell? ⟨gb148, 5, none⟩ = some (.bool a0_5) := (blk_cell BK148.out 5).trans rfl
        have hfz10_0 := blk_frozen BK148.out 0
        have hfz10_1 := blk_frozen BK148.out 1
        have hfz10_2 := blk_frozen BK148.out 2
        have hfz10_3 := blk_frozen BK148.out 3
        have hfz10_4 := blk_frozen BK148.out 4
        have hfz10_5 := blk_frozen BK148.out 5
        go_wp2_with (first | ((with_reducible refine gate_callee (f := 37) rfl ?_); refine goesL_ (some 8) rfl rfl Try.func37 (by kernel_rfl) rfl #[.int .i64 a0_0, .int .i64 a0_1] rfl (by (try simp only [List.map_toArray, List.map_cons, List.map_nil]); first | done | rfl | (simp only [List.length_drop, List.length_take]; rfl)) ?_; (with_reducible refine (shutterref10_Sized.calls a0_0 a0_1 true _ A4.out).mono ?_); rintro e w' ⟨rfl, ⟨nd, rfl⟩⟩; refine ⟨_, rfl, ?_⟩))
        go_meet
        case rel => exact ⟨_, (true), (by first | rfl | (simp; done) | (simp [*]; done)), H', ⟨by first | omega | exact Nat.le_refl _⟩, ⟨by (with_reducible repeat (first | refine blk_drewN ?_ _ | refine blk_drew ?_ | refine blk_alloc ?_ _)); exact BK148.out⟩, ⟨by repeat (first | (with_reducible first | exact HB.out | apply below_alloc | apply pw_below_drewN | apply below_drew1 | refine below_set ?_ GE148.out) | exact HB.out)⟩⟩
    · replace c5 := Bool.eq_false_iff.mpr c5
      subst c5
      have H1 : (shutterref10_Right.j0 k true a0_0 a0_1 l0_2 a0_3 a0_4 a0_5) = some r := by rw [if_neg (show ¬ (false = true) by decide)] at H; exact H
      clear H
      have H := H1
      clear H1
      have H' := Aside0.mk H
      clear H
      have hcz11_0 : w3.cell? ⟨gb148, 0, none⟩ = some (.int .i64 a0_0) := (blk_cell BK148.out 0).trans rfl
      have hcz11_1 : w3.cell? ⟨gb148, 1, none⟩ = some (.int .i64 a0_1) := (blk_cell BK148.out 1).trans rfl
      have hcz11_2 : w3.cell? ⟨gb148, 2, none⟩ = some (.slice A0_2 l0_2.length c0_2) := (blk_cell BK148.out 2).trans rfl
      have hcz11_3 : w3.cell? ⟨gb148, 3, none⟩ = some (.int .i64 a0_3) := (blk_cell BK148.out 3).trans rfl
      have hcz11_4 : w3.cell? ⟨gb148, 4, none⟩ = some (.bool a0_4) := (blk_cell BK148.out 4).trans rfl
      have hcz11_5 : w3.cell? ⟨gb148, 5, none⟩ = some (.bool a0_5) := (blk_cell BK148.out 5).trans rfl
      have hfz11_0 := blk_frozen BK148.out 0
      have hfz11_1 := blk_frozen BK148.out 1
      have hfz11_2 := blk_frozen BK148.out 2
      have hfz11_3 := blk_frozen BK148.out 3
      have hfz11_4 := blk_frozen BK148.out 4
      have hfz11_5 := blk_frozen BK148.out 5
      go_wp2_with (first | ((with_reducible refine gate_callee (f := 37) rfl ?_); refine goesL_ (some 8) rfl rfl Try.func37 (by kernel_rfl) rfl #[.int .i64 a0_0, .int .i64 a0_1] rfl (by (try simp only [List.map_toArray, List.map_cons, List.map_nil]); first | done | rfl | (simp only [List.length_drop, List.length_take]; rfl)) ?_; (with_reducible refine (shutterref10_Sized.calls a0_0 a0_1 false _ A4.out).mono ?_); rintro e w' ⟨rfl, ⟨nd, rfl⟩⟩; refine ⟨_, rfl, ?_⟩))
      go_meet
      case rel => exact ⟨_, (true), (by first | rfl | (simp; done) | (simp [*]; done)), H', ⟨by first | omega | exact Nat.le_refl _⟩, ⟨by (with_reducible repeat (first | refine blk_drewN ?_ _ | refine blk_drew ?_ | refine blk_alloc ?_ _)); exact BK148.out⟩, ⟨by repeat (first | (with_reducible first | exact HB.out | apply below_alloc | apply pw_below_drewN | apply below_drew1 | refine below_set ?_ GE148.out) | exact HB.out)⟩⟩
  case rest =>
    clear HC2
    try clear p2
    try clear c3
    try clear c5
    try clear c6
    try clear c6b0
    try clear c6b1
    try clear p6
    try clear c7
    try clear c7b0
    try clear hcz10_0
    try clear hcz10_1
    try clear hcz10_2
    try clear hcz10_3
    try clear hcz10_4
    try clear hcz10_5
    try clear hcz11_0
    try clear hcz11_1
    try clear hcz11_2
    try clear hcz11_3
    try clear hcz11_4
    try clear hcz11_5
    try clear hcz8_0
    try clear hcz8_1
    try clear hcz8_2
    try clear hcz8_3
    try clear hcz8_4
    try clear hcz8_5
    try clear hcz9_0
    try clear hcz9_1
    try clear hcz9_2
    try clear hcz9_3
    try clear hcz9_4
    try clear hcz9_5
    try clear hfz10_0
    try clear hfz10_1
    try clear hfz10_2
    try clear hfz10_3
    try clear hfz10_4
    try clear hfz10_5
    try clear hfz11_0
    try clear hfz11_1
    try clear hfz11_2
    try clear hfz11_3
    try clear hfz11_4
    try clear hfz11_5
    try clear hfz8_0
    try clear hfz8_1
    try clear hfz8_2
    try clear hfz8_3
    try clear hfz8_4
    try clear hfz8_5
    try clear hfz9_0
    try clear hfz9_1
    try clear hfz9_2
    try clear hfz9_3
    try clear hfz9_4
    try clear hfz9_5
    obtain ⟨kq, x33_1, rfl, HA, HJ1, BK148, HB⟩ := hcut
    cases kq with
    | zero => exact absurd HA.out (by simp [shutterref10_Right.j0])
    | succ kj1 =>
      have H := HA.out
      clear HA
      simp only [shutterref10_Right.j0] at H
      by_cases c12 : x33_1 = true
      · subst c12
        have H1 : (some false) = some r := by rw [if_pos rfl] at H; exact H
        clear H
        have H := H1
        clear H1
        obtain rfl := Option.some.inj H
        go_wp2
        go_ret
        exact ⟨by first | rfl | (simp [errW_none, errW_some] <;> rfl) | (simp [*, errW_none, errW_some] <;> rfl), by repeat (first | (with_reducible first | exact HB.out | apply below_alloc | apply pw_below_drewN | apply below_drew1 | refine below_set ?_ GE148.out) | exact HB.out)⟩
      · replace c12 := Bool.eq_false_iff.mpr c12
        subst c12
        have H1 : (shutterref10_Right.l0 kj1 0 a0_0 a0_1 l0_2 a0_3 a0_4 a0_5) = some r := by rw [if_neg (show ¬ (false = true) by decide)] at H; exact H
        clear H
        have H := H1
        clear H1
        have H' := Aside0.mk H
        clear H
        go_wp2
        go_loopg [3] kj1 (fun kq v3 w' => ∃ (x3_2 : Int), v3 = .int .i64 x3_2 ∧ Aside0 (shutterref10_Right.l0 kq x3_2 a0_0 a0_1 l0_2 a0_3 a0_4 a0_5 = some r) ∧ Aside0 (kq ≤ kj1) ∧ Aside0 (w'.heap[gb148]? = some (.cells #[.int .i64 a0_0, .int .i64 a0_1, (.slice A0_2 l0_2.length c0_2), .int .i64 a0_3, .bool a0_4, .bool a0_5] 24 (0, 0))) ∧ Aside0 (Below w.heap.size w w'))
        case atStart => exact ⟨(0), (by first | rfl | (simp; done) | (simp [*]; done)), H', ⟨Nat.le_refl _⟩, ⟨by (with_reducible repeat (first | refine blk_drewN ?_ _ | refine blk_drew ?_ | refine blk_alloc ?_ _)); exact BK148.out⟩, ⟨by repeat (first | (with_reducible first | exact HB.out | apply below_alloc | apply pw_below_drewN | apply below_drew1 | refine below_set ?_ GE148.out) | exact HB.out)⟩⟩
        case round =>
          clear H'
          try clear c1
          try clear p2
          try clear c3
          try clear c5
          try clear c6
          try clear c6b0
          try clear c6b1
          try clear p6
          try clear c7
          try clear c7b0
          try clear c12
          try clear hcz10_0
          try clear hcz10_1
          try clear hcz10_2
          try clear hcz10_3
          try clear hcz10_4
          try clear hcz10_5
          try clear hcz11_0
          try clear hcz11_1
          try clear hcz11_2
          try clear hcz11_3
          try clear hcz11_4
          try clear hcz11_5
          try clear hcz8_0
          try clear hcz8_1
          try clear hcz8_2
          try clear hcz8_3
          try clear hcz8_4
          try clear hcz8_5
          try clear hcz9_0
          try clear hcz9_1
          try clear hcz9_2
          try clear hcz9_3
          try clear hcz9_4
          try clear hcz9_5
          try clear hfz10_0
          try clear hfz10_1
          try clear hfz10_2
          try clear hfz10_3
          try clear hfz10_4
          try clear hfz10_5
          try clear hfz11_0
          try clear hfz11_1
          try clear hfz11_2
          try clear hfz11_3
          try clear hfz11_4
          try clear hfz11_5
          try clear hfz8_0
          try clear hfz8_1
          try clear hfz8_2
          try clear hfz8_3
          try clear hfz8_4
          try clear hfz8_5
          try clear hfz9_0
          try clear hfz9_1
          try clear hfz9_2
          try clear hfz9_3
          try clear hfz9_4
          try clear hfz9_5
          try clear p2
          try clear p6
          obtain ⟨x3_2, rfl, HA, HK2, BK148, HB⟩ := hrel
          cases gk with
          | zero => exact absurd HA.out (by simp [shutterref10_Right.l0])
          | succ k2 =>
            have H := HA.out
            clear HA
            simp only [shutterref10_Right.l0] at H
            by_cases c13 : x3_2 < (l0_2.length : Int)
            · rw [if_pos c13] at H
              have c13b0 : decide (x3_2 < (l0_2.length : Int)) = true := decide_eq_true c13
              clear c13
              by_cases c14 : 0 ≤ x3_2
              · rw [if_pos c14] at H
                have c14b0 : decide (0 ≤ x3_2) = true := decide_eq_true c14
                clear c14
                replace H := Option.bind_eq_some_iff.mp H
                obtain ⟨t151, A150, H⟩ := H
                replace H : (if t151 = true then (shutterref10_Right.l0 k2 (wrap64 (x3_2 + 1)) a0_0 a0_1 l0_2 a0_3 a0_4 a0_5) else (some false)) = some r := H
                have A15 := Aside0.mk A150
                clear A150
                by_cases c16 : t151 = true
                · subst c16
                  have H1 : (shutterref10_Right.l0 k2 (wrap64 (x3_2 + 1)) a0_0 a0_1 l0_2 a0_3 a0_4 a0_5) = some r := by rw [if_pos rfl] at H; exact H
                  clear H
                  have H := H1
                  clear H1
                  have H' := Aside0.mk H
                  clear H
                  have hcz17_0 : wr.cell? ⟨gb148, 0, none⟩ = some (.int .i64 a0_0) := (blk_cell BK148.out 0).trans rfl
                  have hcz17_1 : wr.cell? ⟨gb148, 1, none⟩ = some (.int .i64 a0_1) := (blk_cell BK148.out 1).trans rfl
                  have hcz17_2 : wr.cell? ⟨gb148, 2, none⟩ = some (.slice A0_2 l0_2.length c0_2) := (blk_cell BK148.out 2).trans rfl
                  have hcz17_3 : wr.cell? ⟨gb148, 3, none⟩ = some (.int .i64 a0_3) := (blk_cell BK148.out 3).trans rfl
                  have hcz17_4 : wr.cell? ⟨gb148, 4, none⟩ = some (.bool a0_4) := (blk_cell BK148.out 4).trans rfl
                  have hcz17_5 : wr.cell? ⟨gb148, 5, none⟩ = some (.bool a0_5) := (blk_cell BK148.out 5).trans rfl
                  have hfz17_0 := blk_frozen BK148.out 0
                  have hfz17_1 := blk_frozen BK148.out 1
                  have hfz17_2 := blk_frozen BK148.out 2
                  have hfz17_3 := blk_frozen BK148.out 3
                  have hfz17_4 := blk_frozen BK148.out 4
                  have hfz17_5 := blk_frozen BK148.out 5
                  have p150 : 0 ≤ (x3_2 : Int) := of_decide_eq_true (by first | (with_reducible assumption) | assumption)
                  have q150 : x3_2 < (l0_2.length : Int) := of_decide_eq_true (by first | (with_reducible assumption) | assumption)
                  obtain ⟨ad150, e150, hx150_0, hx150_1, hx150_2, hx150_3, hx150_4, hx150_5⟩ := at_T39 HR0_2.out x3_2 p150 q150
                  cases e150
                  replace hx150_0 := (HB.out.cell (World.block_lt_of_cell? w _ hx150_0)).trans hx150_0
                  replace hx150_1 := (HB.out.cell (World.block_lt_of_cell? w _ hx150_1)).trans hx150_1
                  replace hx150_2 := (HB.out.cell (World.block_lt_of_cell? w _ hx150_2)).trans hx150_2
                  replace hx150_3 := (HB.out.cell (World.block_lt_of_cell? w _ hx150_3)).trans hx150_3
                  replace hx150_4 := (HB.out.cell (World.block_lt_of_cell? w _ hx150_4)).trans hx150_4
                  replace hx150_5 := (HB.out.cell (World.block_lt_of_cell? w _ hx150_5)).trans hx150_5
                  replace p150 := eq_true p150
                  replace q150 := eq_true q150
                  go_wp2_with (first | ((with_reducible refine gate_callee (f := 38) rfl ?_); refine goesL_ (some 46) rfl rfl Try.func38 (by kernel_rfl) rfl #[.agg #[.bool ((rd_T39 l0_2 x3_2).f0), .bool ((rd_T39 l0_2 x3_2).f1.f0), .bool ((rd_T39 l0_2 x3_2).f1.f1), .int .i64 ((rd_T39 l0_2 x3_2).f1.f2), .bool ((rd_T39 l0_2 x3_2).f1.f3), .int .u8 ((rd_T39 l0_2 x3_2).f2)]] rfl (by (try simp only [List.map_toArray, List.map_cons, List.map_nil]); first | done | rfl | (simp only [List.length_drop, List.length_take]; rfl)) ?_; (with_reducible refine (shutterref10_Cell.calls ((rd_T39 l0_2 x3_2).f0) ((rd_T39 l0_2 x3_2).f1.f0) ((rd_T39 l0_2 x3_2).f1.f1) ((rd_T39 l0_2 x3_2).f1.f2) ((rd_T39 l0_2 x3_2).f1.f3) ((rd_T39 l0_2 x3_2).f2) true _ A15.out).mono ?_); rintro e w18 ⟨rfl, hb⟩; refine ⟨_, rfl, ?_⟩; have n0_ := Aside0.mk (blk_below (g := gb148) (o := .cells #[.int .i64 a0_0, .int .i64 a0_1, .slice (some ad150) l0_2.length c0_2, .int .i64 a0_3, .bool a0_4, .bool a0_5] 24 (0, 0)) (by (with_reducible repeat (first | refine blk_drewN ?_ _ | refine blk_drew ?_ | refine blk_alloc ?_ _)); exact BK148.out) hb); have n1_ := Aside0.mk (below_step (by repeat (first | (with_reducible first | exact HB.out | apply below_alloc | apply pw_below_drewN | apply below_drew1 | refine below_set ?_ GE148.out) | exact HB.out)) hb); clear BK148; clear HB; have BK148 := n0_; have HB := n1_; clear n0_ n1_; (try clear hb); (try clear hb2); (try clear hk); (try clear hi)))
                  go_roundg k2
                  case measure => have := HJ1.out; have := HK2.out; omega
                  case rel => exact ⟨(wrap64 (x3_2 + 1)), (by first | rfl | (simp; done) | (simp [*]; done)), H', ⟨by have := HJ1.out; have := HK2.out; omega⟩, ⟨by (with_reducible repeat (first | refine blk_drewN ?_ _ | refine blk_drew ?_ | refine blk_alloc ?_ _)); exact BK148.out⟩, ⟨by repeat (first | (with_reducible first | exact HB.out | apply below_alloc | apply pw_below_drewN | apply below_drew1 | refine below_set ?_ GE148.out) | exact HB.out)⟩⟩
                · replace c16 := Bool.eq_false_iff.mpr c16
                  subst c16
                  have H1 : (some false) = some r := by rw [if_neg (show ¬ (false = true) by decide)] at H; exact H
                  clear H
                  have H := H1
                  clear H1
                  obtain rfl := Option.some.inj H
                  have hcz19_0 : wr.cell? ⟨gb148, 0, none⟩ = some (.int .i64 a0_0) := (blk_cell BK148.out 0).trans rfl
                  have hcz19_1 : wr.cell? ⟨gb148, 1, none⟩ = some (.int .i64 a0_1) := (blk_cell BK148.out 1).trans rfl
                  have hcz19_2 : wr.cell? ⟨gb148, 2, none⟩ = some (.slice A0_2 l0_2.length c0_2) := (blk_cell BK148.out 2).trans rfl
                  have hcz19_3 : wr.cell? ⟨gb148, 3, none⟩ = some (.int .i64 a0_3) := (blk_cell BK148.out 3).trans rfl
                  have hcz19_4 : wr.cell? ⟨gb148, 4, none⟩ = some (.bool a0_4) := (blk_cell BK148.out 4).trans rfl
                  have hcz19_5 : wr.cell? ⟨gb148, 5, none⟩ = some (.bool a0_5) := (blk_cell BK148.out 5).trans rfl
                  have hfz19_0 := blk_frozen BK148.out 0
                  have hfz19_1 := blk_frozen BK148.out 1
                  have hfz19_2 := blk_frozen BK148.out 2
                  have hfz19_3 := blk_frozen BK148.out 3
                  have hfz19_4 := blk_frozen BK148.out 4
                  have hfz19_5 := blk_frozen BK148.out 5
                  have p150 : 0 ≤ (x3_2 : Int) := of_decide_eq_true (by first | (with_reducible assumption) | assumption)
                  have q150 : x3_2 < (l0_2.length : Int) := of_decide_eq_true (by first | (with_reducible assumption) | assumption)
                  obtain ⟨ad150, e150, hx150_0, hx150_1, hx150_2, hx150_3, hx150_4, hx150_5⟩ := at_T39 HR0_2.out x3_2 p150 q150
                  cases e150
                  replace hx150_0 := (HB.out.cell (World.block_lt_of_cell? w _ hx150_0)).trans hx150_0
                  replace hx150_1 := (HB.out.cell (World.block_lt_of_cell? w _ hx150_1)).trans hx150_1
                  replace hx150_2 := (HB.out.cell (World.block_lt_of_cell? w _ hx150_2)).trans hx150_2
                  replace hx150_3 := (HB.out.cell (World.block_lt_of_cell? w _ hx150_3)).trans hx150_3
                  replace hx150_4 := (HB.out.cell (World.block_lt_of_cell? w _ hx150_4)).trans hx150_4
                  replace hx150_5 := (HB.out.cell (World.block_lt_of_cell? w _ hx150_5)).trans hx150_5
                  replace p150 := eq_true p150
                  replace q150 := eq_true q150
                  go_wp2_with (first | ((with_reducible refine gate_callee (f := 38) rfl ?_); refine goesL_ (some 46) rfl rfl Try.func38 (by kernel_rfl) rfl #[.agg #[.bool ((rd_T39 l0_2 x3_2).f0), .bool ((rd_T39 l0_2 x3_2).f1.f0), .bool ((rd_T39 l0_2 x3_2).f1.f1), .int .i64 ((rd_T39 l0_2 x3_2).f1.f2), .bool ((rd_T39 l0_2 x3_2).f1.f3), .int .u8 ((rd_T39 l0_2 x3_2).f2)]] rfl (by (try simp only [List.map_toArray, List.map_cons, List.map_nil]); first | done | rfl | (simp only [List.length_drop, List.length_take]; rfl)) ?_; (with_reducible refine (shutterref10_Cell.calls ((rd_T39 l0_2 x3_2).f0) ((rd_T39 l0_2 x3_2).f1.f0) ((rd_T39 l0_2 x3_2).f1.f1) ((rd_T39 l0_2 x3_2).f1.f2) ((rd_T39 l0_2 x3_2).f1.f3) ((rd_T39 l0_2 x3_2).f2) false _ A15.out).mono ?_); rintro e w20 ⟨rfl, hb⟩; refine ⟨_, rfl, ?_⟩; have n0_ := Aside0.mk (blk_below (g := gb148) (o := .cells #[.int .i64 a0_0, .int .i64 a0_1, .slice (some ad150) l0_2.length c0_2, .int .i64 a0_3, .bool a0_4, .bool a0_5] 24 (0, 0)) (by (with_reducible repeat (first | refine blk_drewN ?_ _ | refine blk_drew ?_ | refine blk_alloc ?_ _)); exact BK148.out) hb); have n1_ := Aside0.mk (below_step (by repeat (first | (with_reducible first | exact HB.out | apply below_alloc | apply pw_below_drewN | apply below_drew1 | refine below_set ?_ GE148.out) | exact HB.out)) hb); clear BK148; clear HB; have BK148 := n0_; have HB := n1_; clear n0_ n1_; (try clear hb); (try clear hb2); (try clear hk); (try clear hi)))
                  go_ret
                  exact ⟨by first | rfl | (simp [errW_none, errW_some] <;> rfl) | (simp [*, errW_none, errW_some] <;> rfl), by repeat (first | (with_reducible first | exact HB.out | apply below_alloc | apply pw_below_drewN | apply below_drew1 | refine below_set ?_ GE148.out) | exact HB.out)⟩
              · rw [if_neg c14] at H
                exact absurd H (by simp)
            · rw [if_neg c13] at H
              have c13b0 : decide (x3_2 < (l0_2.length : Int)) = false := decide_eq_false c13
              clear c13
              obtain rfl := Option.some.inj H
              have hcz21_0 : wr.cell? ⟨gb148, 0, none⟩ = some (.int .i64 a0_0) := (blk_cell BK148.out 0).trans rfl
              have hcz21_1 : wr.cell? ⟨gb148, 1, none⟩ = some (.int .i64 a0_1) := (blk_cell BK148.out 1).trans rfl
              have hcz21_2 : wr.cell? ⟨gb148, 2, none⟩ = some (.slice A0_2 l0_2.length c0_2) := (blk_cell BK148.out 2).trans rfl
              have hcz21_3 : wr.cell? ⟨gb148, 3, none⟩ = some (.int .i64 a0_3) := (blk_cell BK148.out 3).trans rfl
              have hcz21_4 : wr.cell? ⟨gb148, 4, none⟩ = some (.bool a0_4) := (blk_cell BK148.out 4).trans rfl
              have hcz21_5 : wr.cell? ⟨gb148, 5, none⟩ = some (.bool a0_5) := (blk_cell BK148.out 5).trans rfl
              have hfz21_0 := blk_frozen BK148.out 0
              have hfz21_1 := blk_frozen BK148.out 1
              have hfz21_2 := blk_frozen BK148.out 2
              have hfz21_3 := blk_frozen BK148.out 3
              have hfz21_4 := blk_frozen BK148.out 4
              have hfz21_5 := blk_frozen BK148.out 5
              go_wp2
              go_ret
              exact ⟨by first | rfl | (simp [errW_none, errW_some] <;> rfl) | (simp [*, errW_none, errW_some] <;> rfl), by repeat (first | (with_reducible first | exact HB.out | apply below_alloc | apply pw_below_drewN | apply below_drew1 | refine below_set ?_ GE148.out) | exact HB.out)⟩

/-! ### shutterref10_Few: function 10 -/
def shutterref10_Few.f (k : Nat) (a0_0 : Int) (a0_1 : Int) (l0_2 : List (S39)) (a0_3 : Int) (a0_4 : Bool) (a0_5 : Bool) : Option (Bool) := if (l0_2.length : Int) ≤ 200 then ((shutterref10_Right.f k a0_0 a0_1 l0_2 a0_3 a0_4 a0_5).bind fun t153 => (some t153)) else (some false)
theorem shutterref10_Few.mono : ∀ a0 a1 a2 a3 a4 a5 k, LeO (shutterref10_Few.f k a0 a1 a2 a3 a4 a5) (shutterref10_Few.f (k + 1) a0 a1 a2 a3 a4 a5) := by
  intro a0 a1 a2 a3 a4 a5 k
  unfold shutterref10_Few.f
  repeat' first
      | (with_reducible exact shutterref10_Right.mono _ _ _ _ _ _ _)
      | (with_reducible exact LeO.refl _)
      | (with_reducible exact LeO.none _)
      | (with_reducible refine LeO.ite ?_ ?_)
      | (with_reducible refine LeO.bind ?_ (fun _ => ?_))
      | exact shutterref10_Right.mono _ _ _ _ _ _ _
      | exact LeO.none _
      | refine LeO.ite ?_ ?_
      | refine LeO.bind ?_ (fun _ => ?_)
set_option maxHeartbeats 8000000 in
set_option maxRecDepth 100000 in
theorem shutterref10_Few.calls (k : Nat) (a0_0 : Int) (a0_1 : Int) (A0_2 : Option Addr) (c0_2 : Nat) (l0_2 : List (S39)) (a0_3 : Int) (a0_4 : Bool) (a0_5 : Bool) (r : Bool) (w : World) (hr0_2 : Kd.C k39 w A0_2 l0_2.length l0_2) (hc0_2 : l0_2.length ≤ c0_2) (h : shutterref10_Few.f k a0_0 a0_1 l0_2 a0_3 a0_4 a0_5 = some r) :
    Calls Try.prog 10 #[.agg #[.int .i64 a0_0, .int .i64 a0_1, .slice A0_2 l0_2.length c0_2, .int .i64 a0_3, .bool a0_4, .bool a0_5]] w fun e w' => e = .returned (.bool r) ∧ Below w.heap.size w w' := by
  have hu24 := Try.underlying24
  have HR0_2 := Aside0.mk hr0_2
  have HC0_2 := Aside0.mk hc0_2
  clear hr0_2 hc0_2
  have HB := Aside0.mk (Below.refl w.heap.size w)
  have H : (if (l0_2.length : Int) ≤ 200 then ((shutterref10_Right.f k a0_0 a0_1 l0_2 a0_3 a0_4 a0_5).bind fun t153 => (some t153)) else (some false)) = some r := h
  clear h
  by_cases c2 : (l0_2.length : Int) ≤ 200
  · rw [if_pos c2] at H
    have c2b0 : decide ((l0_2.length : Int) ≤ 200) = true := decide_eq_true c2
    have c2b1 : decide (l0_2.length ≤ 200) = true := decide_eq_true (by omega)
    clear c2
    replace H := Option.bind_eq_some_iff.mp H
    obtain ⟨t153, A30, H⟩ := H
    replace H : (some t153) = some r := H
    have A3 := Aside0.mk A30
    clear A30
    obtain rfl := Option.some.inj H
    go_enter Try.func10, Try.ntmps10
    go_wp2_with (first | ((with_reducible refine gate_dst (N := 1) rfl ?_); refine box_event ?hg (N := 1) ?hd (cs := #[.int .i64 a0_0, .int .i64 a0_1, .slice A0_2 l0_2.length c0_2, .int .i64 a0_3, .bool a0_4, .bool a0_5]) (t := 24) ?hr ?_; (case hd => rfl); (case hg => rfl); (case hr => first | (go_simp; done) | (go_simp; rfl)); intro gb152 hg w4 hbox hb; have n0_ := Aside0.mk (below_step (by repeat (first | (with_reducible first | exact HB.out | apply below_alloc | apply pw_below_drewN | apply below_drew1) | exact HB.out)) hb); have n1_ := Aside0.mk (hbox); have n2_ := Aside0.mk ((by rw [hg]; exact (below_size (by repeat (first | (with_reducible first | exact HB.out | apply below_alloc | apply pw_below_drewN | apply below_drew1) | exact HB.out))) : w.heap.size ≤ gb152)); have n3_ := Aside0.mk ((by rw [hg]; exact (below_size (by repeat (first | (with_reducible first | exact HB.out | apply below_alloc | apply pw_below_drewN | apply below_drew1) | exact HB.out))) : w.heap.size ≤ gb152)); clear HB; have HB := n0_; have BK152 := n1_; have GW152 := n2_; have GE152 := n3_; clear n0_ n1_ n2_ n3_; clear hb hbox hg; have hcz5_0 : w4.cell? ⟨gb152, 0, none⟩ = some (.int .i64 a0_0) := (blk_cell BK152.out 0).trans rfl; have hcz5_1 : w4.cell? ⟨gb152, 1, none⟩ = some (.int .i64 a0_1) := (blk_cell BK152.out 1).trans rfl; have hcz5_2 : w4.cell? ⟨gb152, 2, none⟩ = some (.slice A0_2 l0_2.length c0_2) := (blk_cell BK152.out 2).trans rfl; have hcz5_3 : w4.cell? ⟨gb152, 3, none⟩ = some (.int .i64 a0_3) := (blk_cell BK152.out 3).trans rfl; have hcz5_4 : w4.cell? ⟨gb152, 4, none⟩ = some (.bool a0_4) := (blk_cell BK152.out 4).trans rfl; have hcz5_5 : w4.cell? ⟨gb152, 5, none⟩ = some (.bool a0_5) := (blk_cell BK152.out 5).trans rfl; have hfz5_0 := blk_frozen BK152.out 0; have hfz5_1 := blk_frozen BK152.out 1; have hfz5_2 := blk_frozen BK152.out 2; have hfz5_3 := blk_frozen BK152.out 3; have hfz5_4 := blk_frozen BK152.out 4; have hfz5_5 := blk_frozen BK152.out 5) | (go_at_call 30; (with_reducible refine (shutterref10_Right.calls k a0_0 a0_1 _ _ l0_2 a0_3 a0_4 a0_5 t153 _ ?side1 ?side2 A3.out).mono ?_); (case side1 => repeat (first | exact (Kd.C_below HR0_2.out HB.out) | (with_reducible refine Kd.C_alloc ?_ _) | (with_reducible refine Kd.C_drewN ?_ _) | (with_reducible refine Kd.C_drew ?_))); (case side2 => exact HC0_2.out); rintro e w6 ⟨rfl, hb⟩; have n0_ := Aside0.mk (blk_below (g := gb152) (o := .cells #[.int .i64 a0_0, .int .i64 a0_1, .slice A0_2 l0_2.length c0_2, .int .i64 a0_3, .bool a0_4, .bool a0_5] 24 (0, 0)) (by (with_reducible repeat (first | refine blk_drewN ?_ _ | refine blk_drew ?_ | refine blk_alloc ?_ _)); exact BK152.out) hb); have n1_ := Aside0.mk (below_step (by repeat (first | (with_reducible first | exact HB.out | apply below_alloc | apply pw_below_drewN | apply below_drew1 | refine below_set ?_ GE152.out) | exact HB.out)) hb); clear BK152; clear HB; have BK152 := n0_; have HB := n1_; clear n0_ n1_; (try clear hb); (try clear hb2); (try clear hk); (try clear hi)))
    go_ret
    exact ⟨by first | rfl | (simp [errW_none, errW_some] <;> rfl) | (simp [*, errW_none, errW_some] <;> rfl), by repeat (first | (with_reducible first | exact HB.out | apply below_alloc | apply pw_below_drewN | apply below_drew1 | refine below_set ?_ GE152.out) | exact HB.out)⟩
  · rw [if_neg c2] at H
    have c2b0 : decide ((l0_2.length : Int) ≤ 200) = false := decide_eq_false c2
    have c2b1 : decide (l0_2.length ≤ 200) = false := decide_eq_false (by omega)
    clear c2
    obtain rfl := Option.some.inj H
    go_enter Try.func10, Try.ntmps10
    go_wp2_with (first | ((with_reducible refine gate_dst (N := 1) rfl ?_); refine box_event ?hg (N := 1) ?hd (cs := #[.int .i64 a0_0, .int .i64 a0_1, .slice A0_2 l0_2.length c0_2, .int .i64 a0_3, .bool a0_4, .bool a0_5]) (t := 24) ?hr ?_; (case hd => rfl); (case hg => rfl); (case hr => first | (go_simp; done) | (go_simp; rfl)); intro gb152 hg w7 hbox hb; have n0_ := Aside0.mk (below_step (by repeat (first | (with_reducible first | exact HB.out | apply below_alloc | apply pw_below_drewN | apply below_drew1) | exact HB.out)) hb); have n1_ := Aside0.mk (hbox); have n2_ := Aside0.mk ((by rw [hg]; exact (below_size (by repeat (first | (with_reducible first | exact HB.out | apply below_alloc | apply pw_below_drewN | apply below_drew1) | exact HB.out))) : w.heap.size ≤ gb152)); have n3_ := Aside0.mk ((by rw [hg]; exact (below_size (by repeat (first | (with_reducible first | exact HB.out | apply below_alloc | apply pw_below_drewN | apply below_drew1) | exact HB.out))) : w.heap.size ≤ gb152)); clear HB; have HB := n0_; have BK152 := n1_; have GW152 := n2_; have GE152 := n3_; clear n0_ n1_ n2_ n3_; clear hb hbox hg; have hcz8_0 : w7.cell? ⟨gb152, 0, none⟩ = some (.int .i64 a0_0) := (blk_cell BK152.out 0).trans rfl; have hcz8_1 : w7.cell? ⟨gb152, 1, none⟩ = some (.int .i64 a0_1) := (blk_cell BK152.out 1).trans rfl; have hcz8_2 : w7.cell? ⟨gb152, 2, none⟩ = some (.slice A0_2 l0_2.length c0_2) := (blk_cell BK152.out 2).trans rfl; have hcz8_3 : w7.cell? ⟨gb152, 3, none⟩ = some (.int .i64 a0_3) := (blk_cell BK152.out 3).trans rfl; have hcz8_4 : w7.cell? ⟨gb152, 4, none⟩ = some (.bool a0_4) := (blk_cell BK152.out 4).trans rfl; have hcz8_5 : w7.cell? ⟨gb152, 5, none⟩ = some (.bool a0_5) := (blk_cell BK152.out 5).trans rfl; have hfz8_0 := blk_frozen BK152.out 0; have hfz8_1 := blk_frozen BK152.out 1; have hfz8_2 := blk_frozen BK152.out 2; have hfz8_3 := blk_frozen BK152.out 3; have hfz8_4 := blk_frozen BK152.out 4; have hfz8_5 := blk_frozen BK152.out 5))
    go_ret
    exact ⟨by first | rfl | (simp [errW_none, errW_some] <;> rfl) | (simp [*, errW_none, errW_some] <;> rfl), by repeat (first | (with_reducible first | exact HB.out | apply below_alloc | apply pw_below_drewN | apply below_drew1 | refine below_set ?_ GE152.out) | exact HB.out)⟩

/-! ### shutterref11_Formatted: function 12 -/
def shutterref11_Formatted.l0 : Nat → Int → Int → Int → List (S39) → Int → Bool → Bool → Option (Bool)
  | 0, _, _, _, _, _, _, _ => none
  | k + 1, x3, x155000, x155001, x155002, x155003, x155004, x155005 => if x3 < (x155002.length : Int) then (if 0 ≤ x3 then (if (rd_T39 x155002 x3).f0 = true then (some true) else (shutterref11_Formatted.l0 k (wrap64 (x3 + 1)) x155000 x155001 x155002 x155003 x155004 x155005)) else (none)) else (some false)
def shutterref11_Formatted.f (k : Nat) (a0_0 : Int) (a0_1 : Int) (l0_2 : List (S39)) (a0_3 : Int) (a0_4 : Bool) (a0_5 : Bool) : Option (Bool) := shutterref11_Formatted.l0 k 0 a0_0 a0_1 l0_2 a0_3 a0_4 a0_5
theorem shutterref11_Formatted.mono_l : ∀ k, (∀ y0 y1 y2 y3 y4 y5 y6, LeO (shutterref11_Formatted.l0 k y0 y1 y2 y3 y4 y5 y6) (shutterref11_Formatted.l0 (k + 1) y0 y1 y2 y3 y4 y5 y6))
  | 0 => fun _ _ _ _ _ _ _ r h => by simp [shutterref11_Formatted.l0] at h
  | k + 1 => by
    have ih0 := shutterref11_Formatted.mono_l k
    · intro y0 y1 y2 y3 y4 y5 y6
      unfold shutterref11_Formatted.l0
      repeat' first
      | (with_reducible exact ih0 _ _ _ _ _ _ _)
      | (with_reducible exact LeO.refl _)
      | (with_reducible exact LeO.none _)
      | (with_reducible refine LeO.ite ?_ ?_)
      | (with_reducible refine LeO.bind ?_ (fun _ => ?_))
      | exact ih0 _ _ _ _ _ _ _
      | exact LeO.none _
      | refine LeO.ite ?_ ?_
      | refine LeO.bind ?_ (fun _ => ?_)
theorem shutterref11_Formatted.mono : ∀ a0 a1 a2 a3 a4 a5 k, LeO (shutterref11_Formatted.f k a0 a1 a2 a3 a4 a5) (shutterref11_Formatted.f (k + 1) a0 a1 a2 a3 a4 a5) := by
  intro a0 a1 a2 a3 a4 a5 k
  have ih0 := shutterref11_Formatted.mono_l k
  unfold shutterref11_Formatted.f
  repeat' first
      | (with_reducible exact ih0 _ _ _ _ _ _ _)
      | (with_reducible exact LeO.refl _)
      | (with_reducible exact LeO.none _)
      | (with_reducible refine LeO.ite ?_ ?_)
      | (with_reducible refine LeO.bind ?_ (fun _ => ?_))
      | exact ih0 _ _ _ _ _ _ _
      | exact LeO.none _
      | refine LeO.ite ?_ ?_
      | refine LeO.bind ?_ (fun _ => ?_)
set_option maxHeartbeats 8000000 in
set_option maxRecDepth 100000 in
theorem shutterref11_Formatted.calls (k : Nat) (a0_0 : Int) (a0_1 : Int) (A0_2 : Option Addr) (c0_2 : Nat) (l0_2 : List (S39)) (a0_3 : Int) (a0_4 : Bool) (a0_5 : Bool) (r : Bool) (w : World) (hr0_2 : Kd.C k39 w A0_2 l0_2.length l0_2) (hc0_2 : l0_2.length ≤ c0_2) (h : shutterref11_Formatted.f k a0_0 a0_1 l0_2 a0_3 a0_4 a0_5 = some r) :
    Calls Try.prog 12 #[.agg #[.int .i64 a0_0, .int .i64 a0_1, .slice A0_2 l0_2.length c0_2, .int .i64 a0_3, .bool a0_4, .bool a0_5]] w fun e w' => e = .returned (.bool r) ∧ Below w.heap.size w w' := by
  have hu24 := Try.underlying24
  have HR0_2 := Aside0.mk hr0_2
  have HC0_2 := Aside0.mk hc0_2
  clear hr0_2 hc0_2
  have HB := Aside0.mk (Below.refl w.heap.size w)
  have H : (shutterref11_Formatted.l0 k 0 a0_0 a0_1 l0_2 a0_3 a0_4 a0_5) = some r := h
  clear h
  have H' := Aside0.mk H
  clear H
  go_enter Try.func12, Try.ntmps12
  go_wp2_with (first | ((with_reducible refine gate_dst (N := 1) rfl ?_); refine box_event ?hg (N := 1) ?hd (cs := #[.int .i64 a0_0, .int .i64 a0_1, .slice A0_2 l0_2.length c0_2, .int .i64 a0_3, .bool a0_4, .bool a0_5]) (t := 24) ?hr ?_; (case hd => rfl); (case hg => rfl); (case hr => first | (go_simp; done) | (go_simp; rfl)); intro gb154 hg w2 hbox hb; have n0_ := Aside0.mk (below_step (by repeat (first | (with_reducible first | exact HB.out | apply below_alloc | apply pw_below_drewN | apply below_drew1) | exact HB.out)) hb); have n1_ := Aside0.mk (hbox); have n2_ := Aside0.mk ((by rw [hg]; exact (below_size (by repeat (first | (with_reducible first | exact HB.out | apply below_alloc | apply pw_below_drewN | apply below_drew1) | exact HB.out))) : w.heap.size ≤ gb154)); have n3_ := Aside0.mk ((by rw [hg]; exact (below_size (by repeat (first | (with_reducible first | exact HB.out | apply below_alloc | apply pw_below_drewN | apply below_drew1) | exact HB.out))) : w.heap.size ≤ gb154)); clear HB; have HB := n0_; have BK154 := n1_; have GW154 := n2_; have GE154 := n3_; clear n0_ n1_ n2_ n3_; clear hb hbox hg))
  go_loopg [3] k (fun kq v3 w' => ∃ (x3_1 : Int), v3 = .int .i64 x3_1 ∧ Aside0 (shutterref11_Formatted.l0 kq x3_1 a0_0 a0_1 l0_2 a0_3 a0_4 a0_5 = some r) ∧ Aside0 (kq ≤ k) ∧ Aside0 (w'.heap[gb154]? = some (.cells #[.int .i64 a0_0, .int .i64 a0_1, (.slice A0_2 l0_2.length c0_2), .int .i64 a0_3, .bool a0_4, .bool a0_5] 24 (0, 0))) ∧ Aside0 (Below w.heap.size w w'))
  case atStart => exact ⟨(0), (by first | rfl | (simp; done) | (simp [*]; done)), H', ⟨Nat.le_refl _⟩, ⟨by (with_reducible repeat (first | refine blk_drewN ?_ _ | refine blk_drew ?_ | refine blk_alloc ?_ _)); exact BK154.out⟩, ⟨by repeat (first | (with_reducible first | exact HB.out | apply below_alloc | apply pw_below_drewN | apply below_drew1 | refine below_set ?_ GE154.out) | exact HB.out)⟩⟩
  case round =>
    clear H'
    try clear c1
    try clear p2
    obtain ⟨x3_1, rfl, HA, HK1, BK154, HB⟩ := hrel
    cases gk with
    | zero => exact absurd HA.out (by simp [shutterref11_Formatted.l0])
    | succ k1 =>
      have H := HA.out
      clear HA
      simp only [shutterref11_Formatted.l0] at H
      by_cases c3 : x3_1 < (l0_2.length : Int)
      · rw [if_pos c3] at H
        have c3b0 : decide (x3_1 < (l0_2.length : Int)) = true := decide_eq_true c3
        clear c3
        by_cases c4 : 0 ≤ x3_1
        · rw [if_pos c4] at H
          have c4b0 : decide (0 ≤ x3_1) = true := decide_eq_true c4
          clear c4
          obtain ⟨bq5, hbq5⟩ : ∃ b_ : Bool, b_ = ((rd_T39 l0_2 x3_1).f0) := ⟨_, rfl⟩
          replace H : (if bq5 = true then (some true) else (shutterref11_Formatted.l0 k1 (wrap64 (x3_1 + 1)) a0_0 a0_1 l0_2 a0_3 a0_4 a0_5)) = some r := by rw [← hbq5] at H; exact H
          have Nbq5 := Aside0.mk hbq5
          clear hbq5
          by_cases c6 : bq5 = true
          · subst c6
            have H1 : (some true) = some r := by rw [if_pos rfl] at H; exact H
            clear H
            have H := H1
            clear H1
            obtain rfl := Option.some.inj H
            have hcz7_0 : wr.cell? ⟨gb154, 0, none⟩ = some (.int .i64 a0_0) := (blk_cell BK154.out 0).trans rfl
            have hcz7_1 : wr.cell? ⟨gb154, 1, none⟩ = some (.int .i64 a0_1) := (blk_cell BK154.out 1).trans rfl
            have hcz7_2 : wr.cell? ⟨gb154, 2, none⟩ = some (.slice A0_2 l0_2.length c0_2) := (blk_cell BK154.out 2).trans rfl
            have hcz7_3 : wr.cell? ⟨gb154, 3, none⟩ = some (.int .i64 a0_3) := (blk_cell BK154.out 3).trans rfl
            have hcz7_4 : wr.cell? ⟨gb154, 4, none⟩ = some (.bool a0_4) := (blk_cell BK154.out 4).trans rfl
            have hcz7_5 : wr.cell? ⟨gb154, 5, none⟩ = some (.bool a0_5) := (blk_cell BK154.out 5).trans rfl
            have hfz7_0 := blk_frozen BK154.out 0
            have hfz7_1 := blk_frozen BK154.out 1
            have hfz7_2 := blk_frozen BK154.out 2
            have hfz7_3 := blk_frozen BK154.out 3
            have hfz7_4 := blk_frozen BK154.out 4
            have hfz7_5 := blk_frozen BK154.out 5
            have p155 : 0 ≤ (x3_1 : Int) := of_decide_eq_true (by first | (with_reducible assumption) | assumption)
            have q155 : x3_1 < (l0_2.length : Int) := of_decide_eq_true (by first | (with_reducible assumption) | assumption)
            obtain ⟨ad155, e155, hx155_0, hx155_1, hx155_2, hx155_3, hx155_4, hx155_5⟩ := at_T39 HR0_2.out x3_1 p155 q155
            (try rw [← Nbq5.out] at hx155_0)
            (try rw [← Nbq5.out] at hx155_1)
            (try rw [← Nbq5.out] at hx155_2)
            (try rw [← Nbq5.out] at hx155_4)
            cases e155
            replace hx155_0 := (HB.out.cell (World.block_lt_of_cell? w _ hx155_0)).trans hx155_0
            replace hx155_1 := (HB.out.cell (World.block_lt_of_cell? w _ hx155_1)).trans hx155_1
            replace hx155_2 := (HB.out.cell (World.block_lt_of_cell? w _ hx155_2)).trans hx155_2
            replace hx155_3 := (HB.out.cell (World.block_lt_of_cell? w _ hx155_3)).trans hx155_3
            replace hx155_4 := (HB.out.cell (World.block_lt_of_cell? w _ hx155_4)).trans hx155_4
            replace hx155_5 := (HB.out.cell (World.block_lt_of_cell? w _ hx155_5)).trans hx155_5
            replace p155 := eq_true p155
            replace q155 := eq_true q155
            go_wp2
            go_ret
            exact ⟨by first | rfl | (simp [errW_none, errW_some] <;> rfl) | (simp [*, errW_none, errW_some] <;> rfl), by repeat (first | (with_reducible first | exact HB.out | apply below_alloc | apply pw_below_drewN | apply below_drew1 | refine below_set ?_ GE154.out) | exact HB.out)⟩
          · replace c6 := Bool.eq_false_iff.mpr c6
            subst c6
            have H1 : (shutterref11_Formatted.l0 k1 (wrap64 (x3_1 + 1)) a0_0 a0_1 l0_2 a0_3 a0_4 a0_5) = some r := by rw [if_neg (show ¬ (false = true) by decide)] at H; exact H
            clear H
            have H := H1
            clear H1
            have H' := Aside0.mk H
            clear H
            have hcz8_0 : wr.cell? ⟨gb154, 0, none⟩ = some (.int .i64 a0_0) := (blk_cell BK154.out 0).trans rfl
            have hcz8_1 : wr.cell? ⟨gb154, 1, none⟩ = some (.int .i64 a0_1) := (blk_cell BK154.out 1).trans rfl
            have hcz8_2 : wr.cell? ⟨gb154, 2, none⟩ = some (.slice A0_2 l0_2.length c0_2) := (blk_cell BK154.out 2).trans rfl
            have hcz8_3 : wr.cell? ⟨gb154, 3, none⟩ = some (.int .i64 a0_3) := (blk_cell BK154.out 3).trans rfl
            have hcz8_4 : wr.cell? ⟨gb154, 4, none⟩ = some (.bool a0_4) := (blk_cell BK154.out 4).trans rfl
            have hcz8_5 : wr.cell? ⟨gb154, 5, none⟩ = some (.bool a0_5) := (blk_cell BK154.out 5).trans rfl
            have hfz8_0 := blk_frozen BK154.out 0
            have hfz8_1 := blk_frozen BK154.out 1
            have hfz8_2 := blk_frozen BK154.out 2
            have hfz8_3 := blk_frozen BK154.out 3
            have hfz8_4 := blk_frozen BK154.out 4
            have hfz8_5 := blk_frozen BK154.out 5
            have p155 : 0 ≤ (x3_1 : Int) := of_decide_eq_true (by first | (with_reducible assumption) | assumption)
            have q155 : x3_1 < (l0_2.length : Int) := of_decide_eq_true (by first | (with_reducible assumption) | assumption)
            obtain ⟨ad155, e155, hx155_0, hx155_1, hx155_2, hx155_3, hx155_4, hx155_5⟩ := at_T39 HR0_2.out x3_1 p155 q155
            (try rw [← Nbq5.out] at hx155_0)
            (try rw [← Nbq5.out] at hx155_1)
            (try rw [← Nbq5.out] at hx155_2)
            (try rw [← Nbq5.out] at hx155_4)
            cases e155
            replace hx155_0 := (HB.out.cell (World.block_lt_of_cell? w _ hx155_0)).trans hx155_0
            replace hx155_1 := (HB.out.cell (World.block_lt_of_cell? w _ hx155_1)).trans hx155_1
            replace hx155_2 := (HB.out.cell (World.block_lt_of_cell? w _ hx155_2)).trans hx155_2
            replace hx155_3 := (HB.out.cell (World.block_lt_of_cell? w _ hx155_3)).trans hx155_3
            replace hx155_4 := (HB.out.cell (World.block_lt_of_cell? w _ hx155_4)).trans hx155_4
            replace hx155_5 := (HB.out.cell (World.block_lt_of_cell? w _ hx155_5)).trans hx155_5
            replace p155 := eq_true p155
            replace q155 := eq_true q155
            go_wp2
            go_roundg k1
            case measure => have := HK1.out; omega
            case rel => exact ⟨(wrap64 (x3_1 + 1)), (by first | rfl | (simp; done) | (simp [*]; done)), H', ⟨by have := HK1.out; omega⟩, ⟨by (with_reducible repeat (first | refine blk_drewN ?_ _ | refine blk_drew ?_ | refine blk_alloc ?_ _)); exact BK154.out⟩, ⟨by repeat (first | (with_reducible first | exact HB.out | apply below_alloc | apply pw_below_drewN | apply below_drew1 | refine below_set ?_ GE154.out) | exact HB.out)⟩⟩
        · rw [if_neg c4] at H
          exact absurd H (by simp)
      · rw [if_neg c3] at H
        have c3b0 : decide (x3_1 < (l0_2.length : Int)) = false := decide_eq_false c3
        clear c3
        obtain rfl := Option.some.inj H
        have hcz9_0 : wr.cell? ⟨gb154, 0, none⟩ = some (.int .i64 a0_0) := (blk_cell BK154.out 0).trans rfl
        have hcz9_1 : wr.cell? ⟨gb154, 1, none⟩ = some (.int .i64 a0_1) := (blk_cell BK154.out 1).trans rfl
        have hcz9_2 : wr.cell? ⟨gb154, 2, none⟩ = some (.slice A0_2 l0_2.length c0_2) := (blk_cell BK154.out 2).trans rfl
        have hcz9_3 : wr.cell? ⟨gb154, 3, none⟩ = some (.int .i64 a0_3) := (blk_cell BK154.out 3).trans rfl
        have hcz9_4 : wr.cell? ⟨gb154, 4, none⟩ = some (.bool a0_4) := (blk_cell BK154.out 4).trans rfl
        have hcz9_5 : wr.cell? ⟨gb154, 5, none⟩ = some (.bool a0_5) := (blk_cell BK154.out 5).trans rfl
        have hfz9_0 := blk_frozen BK154.out 0
        have hfz9_1 := blk_frozen BK154.out 1
        have hfz9_2 := blk_frozen BK154.out 2
        have hfz9_3 := blk_frozen BK154.out 3
        have hfz9_4 := blk_frozen BK154.out 4
        have hfz9_5 := blk_frozen BK154.out 5
        go_wp2
        go_ret
        exact ⟨by first | rfl | (simp [errW_none, errW_some] <;> rfl) | (simp [*, errW_none, errW_some] <;> rfl), by repeat (first | (with_reducible first | exact HB.out | apply below_alloc | apply pw_below_drewN | apply below_drew1 | refine below_set ?_ GE154.out) | exact HB.out)⟩

/-! ### shutterref11_mod: function 34 -/
def shutterref11_mod.l0 : Nat → Int → Int → Option (Int)
  | 0, _, _ => none
  | k + 1, x0, x1 => if x0 < 0 then (shutterref11_mod.l0 k (wrap64 (x0 + x1)) x1) else (if x1 = 0 then (none) else (some (Int.tmod x0 x1)))
def shutterref11_mod.f (k : Nat) (a0 : Int) (a1 : Int) : Option (Int) := shutterref11_mod.l0 k a0 a1
theorem shutterref11_mod.mono_l : ∀ k, (∀ y0 y1, LeO (shutterref11_mod.l0 k y0 y1) (shutterref11_mod.l0 (k + 1) y0 y1))
  | 0 => fun _ _ r h => by simp [shutterref11_mod.l0] at h
  | k + 1 => by
    have ih0 := shutterref11_mod.mono_l k
    · intro y0 y1
      unfold shutterref11_mod.l0
      repeat' first
      | (with_reducible exact ih0 _ _)
      | (with_reducible exact LeO.refl _)
      | (with_reducible exact LeO.none _)
      | (with_reducible refine LeO.ite ?_ ?_)
      | (with_reducible refine LeO.bind ?_ (fun _ => ?_))
      | exact ih0 _ _
      | exact LeO.none _
      | refine LeO.ite ?_ ?_
      | refine LeO.bind ?_ (fun _ => ?_)
theorem shutterref11_mod.mono : ∀ a0 a1 k, LeO (shutterref11_mod.f k a0 a1) (shutterref11_mod.f (k + 1) a0 a1) := by
  intro a0 a1 k
  have ih0 := shutterref11_mod.mono_l k
  unfold shutterref11_mod.f
  repeat' first
      | (with_reducible exact ih0 _ _)
      | (with_reducible exact LeO.refl _)
      | (with_reducible exact LeO.none _)
      | (with_reducible refine LeO.ite ?_ ?_)
      | (with_reducible refine LeO.bind ?_ (fun _ => ?_))
      | exact ih0 _ _
      | exact LeO.none _
      | refine LeO.ite ?_ ?_
      | refine LeO.bind ?_ (fun _ => ?_)
set_option maxHeartbeats 8000000 in
set_option maxRecDepth 100000 in
theorem shutterref11_mod.calls (k : Nat) (a0 : Int) (a1 : Int) (r : Int) (w : World) (h : shutterref11_mod.f k a0 a1 = some r) :
    Calls Try.prog 34 #[.int .i64 a0, .int .i64 a1] w fun e w' => e = .returned (.int .i64 r) ∧ Drawn0 w w' := by
  have H : (shutterref11_mod.l0 k a0 a1) = some r := h
  clear h
  have H' := Aside0.mk H
  clear H
  go_enter Try.func34, Try.ntmps34
  go_wp2
  go_loopg [0] k (fun kq v0 w' => ∃ (x0_1 : Int), v0 = .int .i64 x0_1 ∧ Aside0 (shutterref11_mod.l0 kq x0_1 a1 = some r) ∧ Aside0 (kq ≤ k) ∧ Drawn0 w w')
  case atStart => exact ⟨(a0), (by first | rfl | (simp; done) | (simp [*]; done)), H', ⟨Nat.le_refl _⟩, by repeat (first | exact Drawn0.refl _ | apply Drawn0.step)⟩
  case round =>
    clear H'
    try clear p2
    obtain ⟨x0_1, rfl, HA, HK1, ⟨m1, rfl⟩⟩ := hrel
    cases gk with
    | zero => exact absurd HA.out (by simp [shutterref11_mod.l0])
    | succ k1 =>
      have H := HA.out
      clear HA
      simp only [shutterref11_mod.l0] at H
      by_cases c3 : x0_1 < 0
      · rw [if_pos c3] at H
        have c3b0 : decide (x0_1 < 0) = true := decide_eq_true c3
        clear c3
        have H' := Aside0.mk H
        clear H
        go_wp2
        go_roundg k1
        case measure => have := HK1.out; omega
        case rel => exact ⟨(wrap64 (x0_1 + a1)), (by first | rfl | (simp; done) | (simp [*]; done)), H', ⟨by have := HK1.out; omega⟩, by repeat (first | exact Drawn0.refl _ | apply Drawn0.step)⟩
      · rw [if_neg c3] at H
        have c3b0 : decide (x0_1 < 0) = false := decide_eq_false c3
        clear c3
        by_cases c4 : a1 = 0
        · rw [if_pos c4] at H
          exact absurd H (by simp)
        · rw [if_neg c4] at H
          have c4b0 : (a1 == 0) = false := beq_eq_false_iff_ne.mpr c4
          have c4b1 : (a1 != 0) = true := bne_iff_ne.mpr c4
          obtain rfl := Option.some.inj H
          go_wp2
          go_ret
          exact ⟨by first | rfl | (simp; done) | (simp [*]; done), by repeat (first | exact Drawn0.refl _ | apply Drawn0.step)⟩

end Go.Proofs.Ytapcfcagjlmgjaa.P
