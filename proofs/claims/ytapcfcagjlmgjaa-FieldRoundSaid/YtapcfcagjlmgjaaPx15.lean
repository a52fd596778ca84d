/- The functions of the seat's laws as plain Lean functions, and that Go's code comes to just their answers. Written by pp.py (wip/tools), a program of this session, on the kit's print. -/
import Derived.Test.YtapcfcagjlmgjaaPx0
import Derived.Test.YtapcfcagjlmgjaaPx4
import Derived.Test.YtapcfcagjlmgjaaPx5
import Derived.Test.YtapcfcagjlmgjaaPx6
import Derived.Test.YtapcfcagjlmgjaaPx14
namespace Go.Proofs.Ytapcfcagjlmgjaa.P
open Go.RowKit Go.Proofs.YtapcfcagjlmgjaaW.PrintWords Go.Proofs.YtapcfcagjlmgjaaW.PrintLast Go.Proofs.YtapcfcagjlmgjaaW.PrintMore
attribute [local go_sem] max2_int min2_int max_two min_two max_three min_three max_four min_four   -- for this text's walks alone
attribute [local go_sem] Instr.field asAgg
set_option linter.unusedVariables false
set_option linter.unusedSimpArgs false

/-! ### shutterlaw11_FieldRound: function 8 -/
mutual
def shutterlaw11_FieldRound.l0 : Nat → Int → Int → Int → Int → Int → List (S39) → Int → Bool → Bool → Option (Bool)
  | 0, _, _, _, _, _, _, _, _, _ => none
  | k + 1, x1, x5, x6, x333000, x333001, x333002, x333003, x333004, x333005 => if x6 < (x333002.length : Int) then (if 0 ≤ x6 then (if (rd_T39 x333002 x6).f0 = true then (if ((rd_T39 x333002 x6).f1.f0 = true) then (shutterlaw11_FieldRound.l0 k x1 x5 (wrap64 (x6 + 1)) x333000 x333001 x333002 x333003 x333004 x333005) else ((shutterref10_Next.f x333000 x333001 x333002 x333003 x333004 x333005 x6).bind fun t338 => (if 0 ≤ t338 then (if t338 < (x333002.length : Int) then (if ((rd_T39 x333002 t338).f0 = true) then (shutterlaw11_FieldRound.l0 k x1 x5 (wrap64 (x6 + 1)) x333000 x333001 x333002 x333003 x333004 x333005) else (shutterlaw11_FieldRound.l0 k x1 (wrap64 (x5 + 1)) (wrap64 (x6 + 1)) x333000 x333001 x333002 x333003 x333004 x333005)) else (none)) else (none)))) else (shutterlaw11_FieldRound.l0 k x1 x5 (wrap64 (x6 + 1)) x333000 x333001 x333002 x333003 x333004 x333005)) else (none)) else (if (x333002.length : Int) = 0 then (none) else (if x5 = 0 then ((field_Next.f x333000 x333001 x333002 x333003 x333004 x333005 (Int.tmod (wrap64 (x1)) (x333002.length : Int))).bind fun t340 => (if t340 = (-1) then ((field_Prev.f x333000 x333001 x333002 x333003 x333004 x333005 (Int.tmod (wrap64 (x1)) (x333002.length : Int))).bind fun t341 => (some (t341 == (-1)))) else (none))) else (if 0 ≤ (x333002.length : Int) then (if ((x333002.length : Int) : Int).toNat ≤ 281474976710656 then ((field_Next.f x333000 x333001 x333002 x333003 x333004 x333005 (Int.tmod (wrap64 (x1)) (x333002.length : Int))).bind fun t345 => (shutterlaw11_FieldRound.l1 k x5 (List.replicate ((x333002.length : Int) : Int).toNat false) t345 t345 0 x333000 x333001 x333002 x333003 x333004 x333005)) else (none)) else (none))))
def shutterlaw11_FieldRound.l1 : Nat → Int → List Bool → Int → Int → Int → Int → Int → List (S39) → Int → Bool → Bool → Option (Bool)
  | 0, _, _, _, _, _, _, _, _, _, _, _ => none
  | k + 1, x5, x8, x9, x10, x11, x333000, x333001, x333002, x333003, x333004, x333005 => if x11 < x5 then (if x9 < 0 then (none) else (if 0 ≤ x9 then (if x9 < (x8.length : Int) then (if rdOf false x8 x9 = true then (none) else ((field_Next.f x333000 x333001 x333002 x333003 x333004 x333005 x9).bind fun t348 => (shutterlaw11_FieldRound.l1 k x5 (x8.set (x9 : Int).toNat true) t348 x10 (wrap64 (x11 + 1)) x333000 x333001 x333002 x333003 x333004 x333005))) else (none)) else (none))) else (some (x9 == x10))
end
def shutterlaw11_FieldRound.f (k : Nat) (a0_0 : Int) (a0_1 : Int) (l0_2 : List (S39)) (a0_3 : Int) (a0_4 : Bool) (a0_5 : Bool) (a1 : Int) : Option (Bool) := (shutterlaw11_awake.f k).bind fun t333 => (if t333 = true then ((shutterref10_Few.f k a0_0 a0_1 l0_2 a0_3 a0_4 a0_5).bind fun t334 => (if t334 = true then (shutterlaw11_FieldRound.l0 k a1 0 0 a0_0 a0_1 l0_2 a0_3 a0_4 a0_5) else ((shutterlaw11_awake.f k).bind fun t335 => (some t335)))) else (none))
theorem shutterlaw11_FieldRound.mono_l : ∀ k, (∀ y0 y1 y2 y3 y4 y5 y6 y7 y8, LeO (shutterlaw11_FieldRound.l0 k y0 y1 y2 y3 y4 y5 y6 y7 y8) (shutterlaw11_FieldRound.l0 (k + 1) y0 y1 y2 y3 y4 y5 y6 y7 y8)) ∧ (∀ y0 y1 y2 y3 y4 y5 y6 y7 y8 y9 y10, LeO (shutterlaw11_FieldRound.l1 k y0 y1 y2 y3 y4 y5 y6 y7 y8 y9 y10) (shutterlaw11_FieldRound.l1 (k + 1) y0 y1 y2 y3 y4 y5 y6 y7 y8 y9 y10))
  | 0 => ⟨fun _ _ _ _ _ _ _ _ _ r h => by simp [shutterlaw11_FieldRound.l0] at h, fun _ _ _ _ _ _ _ _ _ _ _ r h => by simp [shutterlaw11_FieldRound.l1] at h⟩
  | k + 1 => by
    obtain ⟨ih0, ih1⟩ := shutterlaw11_FieldRound.mono_l k
    refine ⟨?_, ?_⟩
    · intro y0 y1 y2 y3 y4 y5 y6 y7 y8
      unfold shutterlaw11_FieldRound.l0
      repeat' first
      | (with_reducible exact ih0 _ _ _ _ _ _ _ _ _)
      | (with_reducible exact ih1 _ _ _ _ _ _ _ _ _ _ _)
      | (with_reducible exact shutterlaw11_awake.mono _)
      | (with_reducible exact shutterref10_Few.mono _ _ _ _ _ _ _)
      | (with_reducible exact LeO.refl _)
      | (with_reducible exact LeO.none _)
      | (with_reducible refine LeO.ite ?_ ?_)
      | (with_reducible refine LeO.bind ?_ (fun _ => ?_))
      | exact ih0 _ _ _ _ _ _ _ _ _
      | exact ih1 _ _ _ _ _ _ _ _ _ _ _
      | exact shutterlaw11_awake.mono _
      | exact shutterref10_Few.mono _ _ _ _ _ _ _
      | exact LeO.none _
      | refine LeO.ite ?_ ?_
      | refine LeO.bind ?_ (fun _ => ?_)
    · intro y0 y1 y2 y3 y4 y5 y6 y7 y8 y9 y10
      unfold shutterlaw11_FieldRound.l1
      repeat' first
      | (with_reducible exact ih0 _ _ _ _ _ _ _ _ _)
      | (with_reducible exact ih1 _ _ _ _ _ _ _ _ _ _ _)
      | (with_reducible exact shutterlaw11_awake.mono _)
      | (with_reducible exact shutterref10_Few.mono _ _ _ _ _ _ _)
      | (with_reducible exact LeO.refl _)
      | (with_reducible exact LeO.none _)
      | (with_reducible refine LeO.ite ?_ ?_)
      | (with_reducible refine LeO.bind ?_ (fun _ => ?_))
      | exact ih0 _ _ _ _ _ _ _ _ _
      | exact ih1 _ _ _ _ _ _ _ _ _ _ _
      | exact shutterlaw11_awake.mono _
      | exact shutterref10_Few.mono _ _ _ _ _ _ _
      | exact LeO.none _
      | refine LeO.ite ?_ ?_
      | refine LeO.bind ?_ (fun _ => ?_)
theorem shutterlaw11_FieldRound.mono : ∀ a0 a1 a2 a3 a4 a5 a6 k, LeO (shutterlaw11_FieldRound.f k a0 a1 a2 a3 a4 a5 a6) (shutterlaw11_FieldRound.f (k + 1) a0 a1 a2 a3 a4 a5 a6) := by
  intro a0 a1 a2 a3 a4 a5 a6 k
  obtain ⟨ih0, ih1⟩ := shutterlaw11_FieldRound.mono_l k
  unfold shutterlaw11_FieldRound.f
  repeat' first
      | (with_reducible exact ih0 _ _ _ _ _ _ _ _ _)
      | (with_reducible exact ih1 _ _ _ _ _ _ _ _ _ _ _)
      | (with_reducible exact shutterlaw11_awake.mono _)
      | (with_reducible exact shutterref10_Few.mono _ _ _ _ _ _ _)
      | (with_reducible exact LeO.refl _)
      | (with_reducible exact LeO.none _)
      | (with_reducible refine LeO.ite ?_ ?_)
      | (with_reducible refine LeO.bind ?_ (fun _ => ?_))
      | exact ih0 _ _ _ _ _ _ _ _ _
      | exact ih1 _ _ _ _ _ _ _ _ _ _ _
      | exact shutterlaw11_awake.mono _
      | exact shutterref10_Few.mono _ _ _ _ _ _ _
      | exact LeO.none _
      | refine LeO.ite ?_ ?_
      | refine LeO.bind ?_ (fun _ => ?_)
def shutterlaw11_FieldRound.T7 : Bool × List (List Nat × List Nat) := (true, [([], []), ([0], [0]), ([], []), ([1, 2], [1, 2]), ([3], [3]), ([4], [4]), ([5], [5]), ([6], [6]), ([7, 6], [6, 7]), ([6], [6]), ([8, 9, 6], [6, 8, 9]), ([10, 6], [6, 10]), ([11, 6], [6, 11]), ([12, 6], [6, 12]), ([13, 6], [6, 13]), ([6, 14], [6, 14]), ([15, 6], [15]), ([16], [16]), ([17, 16], [16, 17]), ([16], [16]), ([16], [16]), ([19, 20, 16, 16], [16, 19, 20]), ([18, 21, 16], [16, 18, 21]), ([22, 16], [16, 22]), ([23, 16], [16, 23]), ([24, 16], [16, 24]), ([16, 25], [16, 25])])
def shutterlaw11_FieldRound.B7 : List Nat := [0, 1, 0, 7, 15, 31, 63, 127, 255, 127, 1023, 2047, 4095, 8191, 16383, 32767, 65535, 131071, 262143, 131071, 131071, 1703935, 4194303, 8388607, 16777215, 33554431, 67108863]
theorem shutterlaw11_FieldRound.tab7 : rtab .any (opsOf Try.f8 7) = shutterlaw11_FieldRound.T7 := by kernel_rfl
theorem shutterlaw11_FieldRound.bits7 : waitsOk shutterlaw11_FieldRound.T7.2 shutterlaw11_FieldRound.B7 = true := by kernel_rfl
set_option maxHeartbeats 8000000 in
set_option maxRecDepth 100000 in
theorem shutterlaw11_FieldRound.calls (k : Nat) (a0_0 : Int) (a0_1 : Int) (A0_2 : Option Addr) (c0_2 : Nat) (l0_2 : List (S39)) (a0_3 : Int) (a0_4 : Bool) (a0_5 : Bool) (a1 : Int) (r : Bool) (w : World) (hr0_2 : Kd.C k39 w A0_2 l0_2.length l0_2) (hc0_2 : l0_2.length ≤ c0_2) (h : shutterlaw11_FieldRound.f k a0_0 a0_1 l0_2 a0_3 a0_4 a0_5 a1 = some r) :
    Calls Try.prog 8 #[.agg #[.int .i64 a0_0, .int .i64 a0_1, .slice A0_2 l0_2.length c0_2, .int .i64 a0_3, .bool a0_4, .bool a0_5], .int .u16 a1] w fun e w' => e = .returned (.bool r) ∧ Below w.heap.size w w' := by
  have hu24 := Try.underlying24
  have HR0_2 := Aside0.mk hr0_2
  have HC0_2 := Aside0.mk hc0_2
  clear hr0_2 hc0_2
  have HB := Aside0.mk (Below.refl w.heap.size w)
  have H : ((shutterlaw11_awake.f k).bind fun t333 => (if t333 = true then ((shutterref10_Few.f k a0_0 a0_1 l0_2 a0_3 a0_4 a0_5).bind fun t334 => (if t334 = true then (shutterlaw11_FieldRound.l0 k a1 0 0 a0_0 a0_1 l0_2 a0_3 a0_4 a0_5) else ((shutterlaw11_awake.f k).bind fun t335 => (some t335)))) else (none))) = some r := h
  clear h
  replace H := Option.bind_eq_some_iff.mp H
  obtain ⟨t333, A30, H⟩ := H
  replace H : (if t333 = true then ((shutterref10_Few.f k a0_0 a0_1 l0_2 a0_3 a0_4 a0_5).bind fun t334 => (if t334 = true then (shutterlaw11_FieldRound.l0 k a1 0 0 a0_0 a0_1 l0_2 a0_3 a0_4 a0_5) else ((shutterlaw11_awake.f k).bind fun t335 => (some t335)))) else (none)) = some r := H
  have A3 := Aside0.mk A30
  clear A30
  by_cases c4 : t333 = true
  · subst c4
    have H1 : ((shutterref10_Few.f k a0_0 a0_1 l0_2 a0_3 a0_4 a0_5).bind fun t334 => (if t334 = true then (shutterlaw11_FieldRound.l0 k a1 0 0 a0_0 a0_1 l0_2 a0_3 a0_4 a0_5) else ((shutterlaw11_awake.f k).bind fun t335 => (some t335)))) = some r := by rw [if_pos rfl] at H; exact H
    clear H
    have H := H1
    clear H1
    replace H := Option.bind_eq_some_iff.mp H
    obtain ⟨t334, A50, H⟩ := H
    replace H : (if t334 = true then (shutterlaw11_FieldRound.l0 k a1 0 0 a0_0 a0_1 l0_2 a0_3 a0_4 a0_5) else ((shutterlaw11_awake.f k).bind fun t335 => (some t335))) = some r := H
    have A5 := Aside0.mk A50
    clear A50
    by_cases c6 : t334 = true
    · subst c6
      have H1 : (shutterlaw11_FieldRound.l0 k a1 0 0 a0_0 a0_1 l0_2 a0_3 a0_4 a0_5) = some r := by rw [if_pos rfl] at H; exact H
      clear H
      have H := H1
      clear H1
      have H' := Aside0.mk H
      clear H
      go_enter Try.func8, Try.ntmps8
      go_wp2_with (first | ((with_reducible refine gate_dst (N := 2) rfl ?_); refine box_event ?hg (N := 2) ?hd (cs := #[.int .i64 a0_0, .int .i64 a0_1, .slice A0_2 l0_2.length c0_2, .int .i64 a0_3, .bool a0_4, .bool a0_5]) (t := 24) ?hr ?_; (case hd => rfl); (case hg => rfl); (case hr => first | (go_simp; done) | (go_simp; rfl)); intro gb332 hg w7 hbox hb; have n0_ := Aside0.mk (below_step (by repeat (first | (with_reducible first | exact HB.out | apply below_alloc | apply pw_below_drewN | apply below_drew1) | exact HB.out)) hb); have n1_ := Aside0.mk (hbox); have n2_ := Aside0.mk ((by rw [hg]; exact (below_size (by repeat (first | (with_reducible first | exact HB.out | apply below_alloc | apply pw_below_drewN | apply below_drew1) | exact HB.out))) : w.heap.size ≤ gb332)); have n3_ := Aside0.mk ((by rw [hg]; exact (below_size (by repeat (first | (with_reducible first | exact HB.out | apply below_alloc | apply pw_below_drewN | apply below_drew1) | exact HB.out))) : w.heap.size ≤ gb332)); clear HB; have HB := n0_; have BK332 := n1_; have GW332 := n2_; have GE332 := n3_; clear n0_ n1_ n2_ n3_; clear hb hbox hg) | ((with_reducible refine gate_callee (f := 9) rfl ?_); refine goesL_ (some 12) rfl rfl Try.func9 (by kernel_rfl) rfl #[] rfl (by (try simp only [List.map_toArray, List.map_cons, List.map_nil]); first | done | rfl | (simp only [List.length_drop, List.length_take]; rfl)) ?_; (with_reducible refine (shutterlaw11_awake.calls k  true _ A3.out).mono ?_); rintro e w8 ⟨rfl, hb⟩; refine ⟨_, rfl, ?_⟩; have n0_ := Aside0.mk (blk_below (g := gb332) (o := .cells #[.int .i64 a0_0, .int .i64 a0_1, .slice A0_2 l0_2.length c0_2, .int .i64 a0_3, .bool a0_4, .bool a0_5] 24 (0, 0)) (by (with_reducible repeat (first | refine blk_drewN ?_ _ | refine blk_drew ?_ | refine blk_alloc ?_ _)); exact BK332.out) hb); have n1_ := Aside0.mk (below_step (by repeat (first | (with_reducible first | exact HB.out | apply below_alloc | apply pw_below_drewN | apply below_drew1 | refine below_set ?_ GE332.out) | exact HB.out)) hb); clear BK332; clear HB; have BK332 := n0_; have HB := n1_; clear n0_ n1_; (try clear hb); (try clear hb2); (try clear hk); (try clear hi); have hcz9_0 : w8.cell? ⟨gb332, 0, none⟩ = some (.int .i64 a0_0) := (blk_cell BK332.out 0).trans rfl; have hcz9_1 : w8.cell? ⟨gb332, 1, none⟩ = some (.int .i64 a0_1) := (blk_cell BK332.out 1).trans rfl; have hcz9_2 : w8.cell? ⟨gb332, 2, none⟩ = some (.slice A0_2 l0_2.length c0_2) := (blk_cell BK332.out 2).trans rfl; have hcz9_3 : w8.cell? ⟨gb332, 3, none⟩ = some (.int .i64 a0_3) := (blk_cell BK332.out 3).trans rfl; have hcz9_4 : w8.cell? ⟨gb332, 4, none⟩ = some (.bool a0_4) := (blk_cell BK332.out 4).trans rfl; have hcz9_5 : w8.cell? ⟨gb332, 5, none⟩ = some (.bool a0_5) := (blk_cell BK332.out 5).trans rfl; have hfz9_0 := blk_frozen BK332.out 0; have hfz9_1 := blk_frozen BK332.out 1; have hfz9_2 := blk_frozen BK332.out 2; have hfz9_3 := blk_frozen BK332.out 3; have hfz9_4 := blk_frozen BK332.out 4; have hfz9_5 := blk_frozen BK332.out 5) | (go_at_call 10; (with_reducible refine (shutterref10_Few.calls k a0_0 a0_1 _ _ l0_2 a0_3 a0_4 a0_5 true _ ?side1 ?side2 A5.out).mono ?_); (case side1 => repeat (first | exact (Kd.C_below HR0_2.out HB.out) | (with_reducible refine Kd.C_alloc ?_ _) | (with_reducible refine Kd.C_drewN ?_ _) | (with_reducible refine Kd.C_drew ?_))); (case side2 => exact HC0_2.out); rintro e w10 ⟨rfl, hb⟩; have n0_ := Aside0.mk (blk_below (g := gb332) (o := .cells #[.int .i64 a0_0, .int .i64 a0_1, .slice A0_2 l0_2.length c0_2, .int .i64 a0_3, .bool a0_4, .bool a0_5] 24 (0, 0)) (by (with_reducible repeat (first | refine blk_drewN ?_ _ | refine blk_drew ?_ | refine blk_alloc ?_ _)); exact BK332.out) hb); have n1_ := Aside0.mk (below_step (by repeat (first | (with_reducible first | exact HB.out | apply below_alloc | apply pw_below_drewN | apply below_drew1 | refine below_set ?_ GE332.out) | exact HB.out)) hb); clear BK332; clear HB; have BK332 := n0_; have HB := n1_; clear n0_ n1_; (try clear hb); (try clear hb2); (try clear hk); (try clear hi)))
      go_loopg [5, 6] k (fun kq v5 v6 w' => ∃ (x5_1 : Int) (x6_1 : Int), v5 = .int .i64 x5_1 ∧ v6 = .int .i64 x6_1 ∧ Aside0 (shutterlaw11_FieldRound.l0 kq a1 x5_1 x6_1 a0_0 a0_1 l0_2 a0_3 a0_4 a0_5 = some r) ∧ Aside0 (kq ≤ k) ∧ Aside0 (w'.heap[gb332]? = some (.cells #[.int .i64 a0_0, .int .i64 a0_1, (.slice A0_2 l0_2.length c0_2), .int .i64 a0_3, .bool a0_4, .bool a0_5] 24 (0, 0))) ∧ Aside0 (Below w.heap.size w w'))
      case atStart => exact ⟨(0), (0), (by first | rfl | (simp; done) | (simp [*]; done)), (by first | rfl | (simp; done) | (simp [*]; done)), H', ⟨Nat.le_refl _⟩, ⟨by (with_reducible repeat (first | refine blk_drewN ?_ _ | refine blk_drew ?_ | refine blk_alloc ?_ _)); exact BK332.out⟩, ⟨by repeat (first | (with_reducible first | exact HB.out | apply below_alloc | apply pw_below_drewN | apply below_drew1 | refine below_set ?_ GE332.out) | exact HB.out)⟩⟩
      case round =>
        clear H'
        try clear p2
        try clear c4
        try clear c6
        try clear c8
        try clear c9
        try clear hcz9_0
        try clear hcz9_1
        try clear hcz9_2
        try clear hcz9_3
        try clear hcz9_4
        try clear hcz9_5
        try clear hfz9_0
        try clear hfz9_1
        try clear hfz9_2
        try clear hfz9_3
        try clear hfz9_4
        try clear hfz9_5
        obtain ⟨x5_1, x6_1, rfl, rfl, HA, HK1, BK332, HB⟩ := hrel
        cases gk with
        | zero => exact absurd HA.out (by simp [shutterlaw11_FieldRound.l0])
        | succ k1 =>
          have H := HA.out
          clear HA
          simp only [shutterlaw11_FieldRound.l0] at H
          by_cases c11 : x6_1 < (l0_2.length : Int)
          · rw [if_pos c11] at H
            have c11b0 : decide (x6_1 < (l0_2.length : Int)) = true := decide_eq_true c11
            clear c11
            by_cases c12 : 0 ≤ x6_1
            · rw [if_pos c12] at H
              have c12b0 : decide (0 ≤ x6_1) = true := decide_eq_true c12
              clear c12
              obtain ⟨bq13, hbq13⟩ : ∃ b_ : Bool, b_ = ((rd_T39 l0_2 x6_1).f0) := ⟨_, rfl⟩
              replace H : (if bq13 = true then (if ((rd_T39 l0_2 x6_1).f1.f0 = true) then (shutterlaw11_FieldRound.l0 k1 a1 x5_1 (wrap64 (x6_1 + 1)) a0_0 a0_1 l0_2 a0_3 a0_4 a0_5) else ((shutterref10_Next.f a0_0 a0_1 l0_2 a0_3 a0_4 a0_5 x6_1).bind fun t338 => (if 0 ≤ t338 then (if t338 < (l0_2.length : Int) then (if ((rd_T39 l0_2 t338).f0 = true) then (shutterlaw11_FieldRound.l0 k1 a1 x5_1 (wrap64 (x6_1 + 1)) a0_0 a0_1 l0_2 a0_3 a0_4 a0_5) else (shutterlaw11_FieldRound.l0 k1 a1 (wrap64 (x5_1 + 1)) (wrap64 (x6_1 + 1)) a0_0 a0_1 l0_2 a0_3 a0_4 a0_5)) else (none)) else (none)))) else (shutterlaw11_FieldRound.l0 k1 a1 x5_1 (wrap64 (x6_1 + 1)) a0_0 a0_1 l0_2 a0_3 a0_4 a0_5)) = some r := by rw [← hbq13] at H; exact H
              have Nbq13 := Aside0.mk hbq13
              clear hbq13
              by_cases c14 : bq13 = true
              · subst c14
                have H1 : (if ((rd_T39 l0_2 x6_1).f1.f0 = true) then (shutterlaw11_FieldRound.l0 k1 a1 x5_1 (wrap64 (x6_1 + 1)) a0_0 a0_1 l0_2 a0_3 a0_4 a0_5) else ((shutterref10_Next.f a0_0 a0_1 l0_2 a0_3 a0_4 a0_5 x6_1).bind fun t338 => (if 0 ≤ t338 then (if t338 < (l0_2.length : Int) then (if ((rd_T39 l0_2 t338).f0 = true) then (shutterlaw11_FieldRound.l0 k1 a1 x5_1 (wrap64 (x6_1 + 1)) a0_0 a0_1 l0_2 a0_3 a0_4 a0_5) else (shutterlaw11_FieldRound.l0 k1 a1 (wrap64 (x5_1 + 1)) (wrap64 (x6_1 + 1)) a0_0 a0_1 l0_2 a0_3 a0_4 a0_5)) else (none)) else (none)))) = some r := by rw [if_pos rfl] at H; exact H
                clear H
                have H := H1
                clear H1
                obtain ⟨bq15, hbq15⟩ : ∃ b_ : Bool, b_ = ((rd_T39 l0_2 x6_1).f1.f0) := ⟨_, rfl⟩
                replace H : (if (bq15 = true) then (shutterlaw11_FieldRound.l0 k1 a1 x5_1 (wrap64 (x6_1 + 1)) a0_0 a0_1 l0_2 a0_3 a0_4 a0_5) else ((shutterref10_Next.f a0_0 a0_1 l0_2 a0_3 a0_4 a0_5 x6_1).bind fun t338 => (if 0 ≤ t338 then (if t338 < (l0_2.length : Int) then (if ((rd_T39 l0_2 t338).f0 = true) then (shutterlaw11_FieldRound.l0 k1 a1 x5_1 (wrap64 (x6_1 + 1)) a0_0 a0_1 l0_2 a0_3 a0_4 a0_5) else (shutterlaw11_FieldRound.l0 k1 a1 (wrap64 (x5_1 + 1)) (wrap64 (x6_1 + 1)) a0_0 a0_1 l0_2 a0_3 a0_4 a0_5)) else (none)) else (none)))) = some r := by rw [← hbq15] at H; exact H
                have Nbq15 := Aside0.mk hbq15
                clear hbq15
                by_cases c16 : (bq15 = true)
                · subst c16
                  have H1 : (shutterlaw11_FieldRound.l0 k1 a1 x5_1 (wrap64 (x6_1 + 1)) a0_0 a0_1 l0_2 a0_3 a0_4 a0_5) = some r := by rw [if_pos rfl] at H; exact H
                  clear H
                  have H := H1
                  clear H1
                  have H' := Aside0.mk H
                  clear H
                  have hcz17_0 : wr.cell? ⟨gb332, 0, none⟩ = some (.int .i64 a0_0) := (blk_cell BK332.out 0).trans rfl
                  have hcz17_1 : wr.cell? ⟨gb332, 1, none⟩ = some (.int .i64 a0_1) := (blk_cell BK332.out 1).trans rfl
                  have hcz17_2 : wr.cell? ⟨gb332, 2, none⟩ = some (.slice A0_2 l0_2.length c0_2) := (blk_cell BK332.out 2).trans rfl
                  have hcz17_3 : wr.cell? ⟨gb332, 3, none⟩ = some (.int .i64 a0_3) := (blk_cell BK332.out 3).trans rfl
                  have hcz17_4 : wr.cell? ⟨gb332, 4, none⟩ = some (.bool a0_4) := (blk_cell BK332.out 4).trans rfl
                  have hcz17_5 : wr.cell? ⟨gb332, 5, none⟩ = some (.bool a0_5) := (blk_cell BK332.out 5).trans rfl
                  have hfz17_0 := blk_frozen BK332.out 0
                  have hfz17_1 := blk_frozen BK332.out 1
                  have hfz17_2 := blk_frozen BK332.out 2
                  have hfz17_3 := blk_frozen BK332.out 3
                  have hfz17_4 := blk_frozen BK332.out 4
                  have hfz17_5 := blk_frozen BK332.out 5
                  try go_wp2
                  have n0_ := Aside0.mk (blk_drew BK332.out)
                  have n1_ := Aside0.mk (below_drew1 HB.out)
                  clear BK332
                  clear HB
                  have BK332 := n0_
                  have HB := n1_
                  clear n0_ n1_
                  have p336 : 0 ≤ (x6_1 : Int) := of_decide_eq_true (by first | (with_reducible assumption) | assumption)
                  have q336 : x6_1 < (l0_2.length : Int) := of_decide_eq_true (by first | (with_reducible assumption) | assumption)
                  obtain ⟨ad336, e336, hx336_0, hx336_1, hx336_2, hx336_3, hx336_4, hx336_5⟩ := at_T39 HR0_2.out x6_1 p336 q336
                  have hw336_5 := hx336_5
                  (try rw [← Nbq13.out] at hw336_5)
                  (try rw [← Nbq15.out] at hw336_5)
                  have hw336_4 := hx336_4
                  (try rw [← Nbq13.out] at hw336_4)
                  (try rw [← Nbq15.out] at hw336_4)
                  have hw336_3 := hx336_3
                  (try rw [← Nbq13.out] at hw336_3)
                  (try rw [← Nbq15.out] at hw336_3)
                  have hw336_2 := hx336_2
                  (try rw [← Nbq13.out] at hw336_2)
                  (try rw [← Nbq15.out] at hw336_2)
                  have hw336_1 := hx336_1
                  (try rw [← Nbq13.out] at hw336_1)
                  (try rw [← Nbq15.out] at hw336_1)
                  have hw336_0 := hx336_0
                  (try rw [← Nbq13.out] at hw336_0)
                  (try rw [← Nbq15.out] at hw336_0)
                  (try rw [← Nbq13.out] at hx336_0)
                  (try rw [← Nbq15.out] at hx336_0)
                  (try rw [← Nbq13.out] at hx336_1)
                  (try rw [← Nbq15.out] at hx336_1)
                  (try rw [← Nbq13.out] at hx336_2)
                  (try rw [← Nbq15.out] at hx336_2)
                  (try rw [← Nbq13.out] at hx336_4)
                  (try rw [← Nbq15.out] at hx336_4)
                  cases e336
                  replace hx336_0 := (HB.out.cell (World.block_lt_of_cell? w _ hx336_0)).trans hx336_0
                  replace hx336_1 := (HB.out.cell (World.block_lt_of_cell? w _ hx336_1)).trans hx336_1
                  replace hx336_2 := (HB.out.cell (World.block_lt_of_cell? w _ hx336_2)).trans hx336_2
                  replace hx336_3 := (HB.out.cell (World.block_lt_of_cell? w _ hx336_3)).trans hx336_3
                  replace hx336_4 := (HB.out.cell (World.block_lt_of_cell? w _ hx336_4)).trans hx336_4
                  replace hx336_5 := (HB.out.cell (World.block_lt_of_cell? w _ hx336_5)).trans hx336_5
                  replace p336 := eq_true p336
                  replace q336 := eq_true q336
                  have p337 : 0 ≤ (x6_1 : Int) := of_decide_eq_true (by first | (with_reducible assumption) | assumption)
                  have q337 : x6_1 < (l0_2.length : Int) := of_decide_eq_true (by first | (with_reducible assumption) | assumption)
                  obtain ⟨ad337, e337, hx337_0, hx337_1, hx337_2, hx337_3, hx337_4, hx337_5⟩ := at_T39 HR0_2.out x6_1 p337 q337
                  have hw337_5 := hx337_5
                  (try rw [← Nbq13.out] at hw337_5)
                  (try rw [← Nbq15.out] at hw337_5)
                  have hw337_4 := hx337_4
                  (try rw [← Nbq13.out] at hw337_4)
                  (try rw [← Nbq15.out] at hw337_4)
                  have hw337_3 := hx337_3
                  (try rw [← Nbq13.out] at hw337_3)
                  (try rw [← Nbq15.out] at hw337_3)
                  have hw337_2 := hx337_2
                  (try rw [← Nbq13.out] at hw337_2)
                  (try rw [← Nbq15.out] at hw337_2)
                  have hw337_1 := hx337_1
                  (try rw [← Nbq13.out] at hw337_1)
                  (try rw [← Nbq15.out] at hw337_1)
                  have hw337_0 := hx337_0
                  (try rw [← Nbq13.out] at hw337_0)
                  (try rw [← Nbq15.out] at hw337_0)
                  (try rw [← Nbq13.out] at hx337_0)
                  (try rw [← Nbq15.out] at hx337_0)
                  (try rw [← Nbq13.out] at hx337_1)
                  (try rw [← Nbq15.out] at hx337_1)
                  (try rw [← Nbq13.out] at hx337_2)
                  (try rw [← Nbq15.out] at hx337_2)
                  (try rw [← Nbq13.out] at hx337_4)
                  (try rw [← Nbq15.out] at hx337_4)
                  obtain rfl : ad336 = ad337 := (by injection e337)
                  replace hx337_0 := (HB.out.cell (World.block_lt_of_cell? w _ hx337_0)).trans hx337_0
                  replace hx337_1 := (HB.out.cell (World.block_lt_of_cell? w _ hx337_1)).trans hx337_1
                  replace hx337_2 := (HB.out.cell (World.block_lt_of_cell? w _ hx337_2)).trans hx337_2
                  replace hx337_3 := (HB.out.cell (World.block_lt_of_cell? w _ hx337_3)).trans hx337_3
                  replace hx337_4 := (HB.out.cell (World.block_lt_of_cell? w _ hx337_4)).trans hx337_4
                  replace hx337_5 := (HB.out.cell (World.block_lt_of_cell? w _ hx337_5)).trans hx337_5
                  replace p337 := eq_true p337
                  replace q337 := eq_true q337
                  refine start_ (n := 27) (S := fun w' => w'.cell? ⟨gb332, 0, none⟩ = some (.int .i64 a0_0) ∧ w'.cell? ⟨gb332, 1, none⟩ = some (.int .i64 a0_1) ∧ w'.cell? ⟨gb332, 2, none⟩ = some (.slice (some ad336) l0_2.length c0_2) ∧ w'.cell? ⟨gb332, 3, none⟩ = some (.int .i64 a0_3) ∧ w'.cell? ⟨gb332, 4, none⟩ = some (.bool a0_4) ∧ w'.cell? ⟨gb332, 5, none⟩ = some (.bool a0_5) ∧ w'.cell? (ad336.add ((x6_1).toNat * 6)) = some (.bool true) ∧ w'.cell? ⟨(ad336.add ((x6_1).toNat * 6)).block, (ad336.add ((x6_1).toNat * 6)).off + 1, none⟩ = some (.bool true) ∧ w'.cell? ⟨(ad336.add ((x6_1).toNat * 6)).block, (ad336.add ((x6_1).toNat * 6)).off + 2, none⟩ = some (.bool ((rd_T39 l0_2 x6_1).f1.f1)) ∧ w'.cell? ⟨(ad336.add ((x6_1).toNat * 6)).block, (ad336.add ((x6_1).toNat * 6)).off + 3, none⟩ = some (.int .i64 ((rd_T39 l0_2 x6_1).f1.f2)) ∧ w'.cell? ⟨(ad336.add ((x6_1).toNat * 6)).block, (ad336.add ((x6_1).toNat * 6)).off + 4, none⟩ = some (.bool ((rd_T39 l0_2 x6_1).f1.f3)) ∧ w'.cell? ⟨(ad336.add ((x6_1).toNat * 6)).block, (ad336.add ((x6_1).toNat * 6)).off + 5, none⟩ = some (.int .u8 ((rd_T39 l0_2 x6_1).f2)) ∧ w'.cell? (ad336.add ((x6_1).toNat * 6)) = some (.bool (true)) ∧ w'.cell? ⟨(ad336.add ((x6_1).toNat * 6)).block, (ad336.add ((x6_1).toNat * 6)).off + 1, none⟩ = some (.bool true) ∧ w'.cell? ⟨(ad336.add ((x6_1).toNat * 6)).block, (ad336.add ((x6_1).toNat * 6)).off + 2, none⟩ = some (.bool ((rd_T39 l0_2 x6_1).f1.f1)) ∧ w'.cell? ⟨(ad336.add ((x6_1).toNat * 6)).block, (ad336.add ((x6_1).toNat * 6)).off + 3, none⟩ = some (.int .i64 ((rd_T39 l0_2 x6_1).f1.f2)) ∧ w'.cell? ⟨(ad336.add ((x6_1).toNat * 6)).block, (ad336.add ((x6_1).toNat * 6)).off + 4, none⟩ = some (.bool ((rd_T39 l0_2 x6_1).f1.f3)) ∧ w'.cell? ⟨(ad336.add ((x6_1).toNat * 6)).block, (ad336.add ((x6_1).toNat * 6)).off + 5, none⟩ = some (.int .u8 ((rd_T39 l0_2 x6_1).f2))) (ds := []) #[false, false, false, false, false, false, false, false, false, false, false, false, false, false, false, false, false, false, false, false, false, false, false, false, false, false, false] (by kernel_rfl) rfl rfl ⟨(blk_cell BK332.out 0).trans rfl, (blk_cell BK332.out 1).trans rfl, (blk_cell BK332.out 2).trans rfl, (blk_cell BK332.out 3).trans rfl, (blk_cell BK332.out 4).trans rfl, (blk_cell BK332.out 5).trans rfl, ((HB.out.cell (World.block_lt_of_cell? w _ hw336_0)).trans hw336_0), ((HB.out.cell (World.block_lt_of_cell? w _ hw336_1)).trans hw336_1), ((HB.out.cell (World.block_lt_of_cell? w _ hw336_2)).trans hw336_2), ((HB.out.cell (World.block_lt_of_cell? w _ hw336_3)).trans hw336_3), ((HB.out.cell (World.block_lt_of_cell? w _ hw336_4)).trans hw336_4), ((HB.out.cell (World.block_lt_of_cell? w _ hw336_5)).trans hw336_5), ((HB.out.cell (World.block_lt_of_cell? w _ hw337_0)).trans hw337_0), ((HB.out.cell (World.block_lt_of_cell? w _ hw337_1)).trans hw337_1), ((HB.out.cell (World.block_lt_of_cell? w _ hw337_2)).trans hw337_2), ((HB.out.cell (World.block_lt_of_cell? w _ hw337_3)).trans hw337_3), ((HB.out.cell (World.block_lt_of_cell? w _ hw337_4)).trans hw337_4), ((HB.out.cell (World.block_lt_of_cell? w _ hw337_5)).trans hw337_5)⟩ (fun hHeld => ?_); refine with_tabW shutterlaw11_FieldRound.tab7 shutterlaw11_FieldRound.bits7 (fun HT_ HW_ => ?_)
                  generalize wr.drew = w18 at BK332 HB hx336_0 hx336_1 hx336_2 hx336_3 hx336_4 hx336_5 hx337_0 hx337_1 hx337_2 hx337_3 hx337_4 hx337_5 hHeld ⊢
                  refine pure_ (i := 0) (N := some 27) (v := ?_) (a' := ?_) #[true, false, false, false, false, false, false, false, false, false, false, false, false, false, false, false, false, false, false, false, false, false, false, false, false, false, false] rfl rfl (any_of HT_.out (by kernel_rfl)) (fun _ _ _ h => h) (Or.inl ⟨by rfl, ?_⟩) ?_ ?_
                  rotate_left
                  · intro w'
                    go_simp
                    with_reducible rfl
                  rotate_left
                  · simp only [Act.put, List.setIfInBounds_toArray, List.set_cons_zero, List.set_cons_succ, i64_w, i32_w]
                    rfl
                  refine pure_ (i := 2) (N := some 29) (v := ?_) (a' := ?_) #[true, false, true, false, false, false, false, false, false, false, false, false, false, false, false, false, false, false, false, false, false, false, false, false, false, false, false] rfl rfl (any_of HT_.out (by kernel_rfl)) (fun _ _ _ h => h) (Or.inl ⟨by rfl, ?_⟩) ?_ ?_
                  rotate_left
                  · intro w'
                    go_simp
                    with_reducible rfl
                  rotate_left
                  · simp only [Act.put, List.setIfInBounds_toArray, List.set_cons_zero, List.set_cons_succ, i64_w, i32_w]
                    rfl
                  refine take_ (i := 1) (N := some 28) (v := ?_) (a' := ?_) #[true, true, true, false, false, false, false, false, false, false, false, false, false, false, false, false, false, false, false, false, false, false, false, false, false, false, false] rfl rfl (take_ofW HT_.out HW_.out (by kernel_rfl)) (fun _ _ _ h => h) (Or.inl ⟨by rfl, ?_⟩) hHeld ?_ ?_
                  rotate_left
                  · rintro w' ⟨s0, s1, s2, s3, s4, s5, s6, s7, s8, s9, s10, s11, s12, s13, s14, s15, s16, s17⟩
                    go_simp
                    with_reducible rfl
                  rotate_left
                  · simp only [Act.put, List.setIfInBounds_toArray, List.set_cons_zero, List.set_cons_succ, i64_w, i32_w]
                    rfl
                  refine pure_ (i := 3) (N := some 30) (v := ?_) (a' := ?_) #[true, true, true, true, false, false, false, false, false, false, false, false, false, false, false, false, false, false, false, false, false, false, false, false, false, false, false] rfl rfl (any_of HT_.out (by kernel_rfl)) (fun _ _ _ h => h) (Or.inl ⟨by rfl, ?_⟩) ?_ ?_
                  rotate_left
                  · intro w'
                    go_simp
                    with_reducible rfl
                  rotate_left
                  · simp only [Act.put, List.setIfInBounds_toArray, List.set_cons_zero, List.set_cons_succ, i64_w, i32_w]
                    rfl
                  refine pure_ (i := 4) (N := some 31) (v := ?_) (a' := ?_) #[true, true, true, true, true, false, false, false, false, false, false, false, false, false, false, false, false, false, false, false, false, false, false, false, false, false, false] rfl rfl (any_of HT_.out (by kernel_rfl)) (fun _ _ _ h => h) (Or.inl ⟨by rfl, ?_⟩) ?_ ?_
                  rotate_left
                  · intro w'
                    go_simp
                    with_reducible rfl
                  rotate_left
                  · simp only [Act.put, List.setIfInBounds_toArray, List.set_cons_zero, List.set_cons_succ, i64_w, i32_w]
                    rfl
                  refine take_ (i := 5) (N := some 32) (v := ?_) (a' := ?_) #[true, true, true, true, true, true, false, false, false, false, false, false, false, false, false, false, false, false, false, false, false, false, false, false, false, false, false] rfl rfl (take_ofW HT_.out HW_.out (by kernel_rfl)) (fun _ _ _ h => h) (Or.inl ⟨by rfl, ?_⟩) hHeld ?_ ?_
                  rotate_left
                  · rintro w' ⟨s0, s1, s2, s3, s4, s5, s6, s7, s8, s9, s10, s11, s12, s13, s14, s15, s16, s17⟩
                    go_simp
                    with_reducible rfl
                  rotate_left
                  · simp only [Act.put, List.setIfInBounds_toArray, List.set_cons_zero, List.set_cons_succ, i64_w, i32_w]
                    rfl
                  refine pure_ (i := 6) (N := some 33) (v := ?_) (a' := ?_) #[true, true, true, true, true, true, true, false, false, false, false, false, false, false, false, false, false, false, false, false, false, false, false, false, false, false, false] rfl rfl (any_of HT_.out (by kernel_rfl)) (fun _ _ _ h => h) (Or.inl ⟨by rfl, ?_⟩) ?_ ?_
                  rotate_left
                  · intro w'
                    go_simp
                    with_reducible rfl
                  rotate_left
                  · simp only [Act.put, List.setIfInBounds_toArray, List.set_cons_zero, List.set_cons_succ, i64_w, i32_w]
                    rfl
                  refine pure_ (i := 7) (N := some 34) (v := ?_) (a' := ?_) #[true, true, true, true, true, true, true, true, false, false, false, false, false, false, false, false, false, false, false, false, false, false, false, false, false, false, false] rfl rfl (any_of HT_.out (by kernel_rfl)) (fun _ _ _ h => h) (Or.inl ⟨by rfl, ?_⟩) ?_ ?_
                  rotate_left
                  · intro w'
                    go_simp
                    with_reducible rfl
                  rotate_left
                  · simp only [Act.put, List.setIfInBounds_toArray, List.set_cons_zero, List.set_cons_succ, i64_w, i32_w]
                    rfl
                  refine pure_ (i := 9) (N := some 36) (v := ?_) (a' := ?_) #[true, true, true, true, true, true, true, true, false, true, false, false, false, false, false, false, false, false, false, false, false, false, false, false, false, false, false] rfl rfl (any_of HT_.out (by kernel_rfl)) (fun _ _ _ h => h) (Or.inl ⟨by rfl, ?_⟩) ?_ ?_
                  rotate_left
                  · intro w'
                    go_simp
                    with_reducible rfl
                  rotate_left
                  · simp only [Act.put, List.setIfInBounds_toArray, List.set_cons_zero, List.set_cons_succ, i64_w, i32_w]
                    rfl
                  refine take_ (i := 8) (N := some 35) (v := ?_) (a' := ?_) #[true, true, true, true, true, true, true, true, true, true, false, false, false, false, false, false, false, false, false, false, false, false, false, false, false, false, false] rfl rfl (take_ofW HT_.out HW_.out (by kernel_rfl)) (fun _ _ _ h => h) (Or.inl ⟨by rfl, ?_⟩) hHeld ?_ ?_
                  rotate_left
                  · rintro w' ⟨s0, s1, s2, s3, s4, s5, s6, s7, s8, s9, s10, s11, s12, s13, s14, s15, s16, s17⟩
                    go_simp
                    with_reducible rfl
                  rotate_left
                  · simp only [Act.put, List.setIfInBounds_toArray, List.set_cons_zero, List.set_cons_succ, i64_w, i32_w]
                    rfl
                  refine pure_ (i := 10) (N := some 37) (v := ?_) (a' := ?_) #[true, true, true, true, true, true, true, true, true, true, true, false, false, false, false, false, false, false, false, false, false, false, false, false, false, false, false] rfl rfl (any_of HT_.out (by kernel_rfl)) (fun _ _ _ h => h) (Or.inl ⟨by rfl, ?_⟩) ?_ ?_
                  rotate_left
                  · intro w'
                    go_simp
                    with_reducible rfl
                  rotate_left
                  · simp only [Act.put, List.setIfInBounds_toArray, List.set_cons_zero, List.set_cons_succ, i64_w, i32_w]
                    rfl
                  refine pure_ (i := 11) (N := some 38) (v := ?_) (a' := ?_) #[true, true, true, true, true, true, true, true, true, true, true, true, false, false, false, false, false, false, false, false, false, false, false, false, false, false, false] rfl rfl (any_of HT_.out (by kernel_rfl)) (fun _ _ _ h => h) (Or.inl ⟨by rfl, ?_⟩) ?_ ?_
                  rotate_left
                  · intro w'
                    go_simp
                    with_reducible rfl
                  rotate_left
                  · simp only [Act.put, List.setIfInBounds_toArray, List.set_cons_zero, List.set_cons_succ, i64_w, i32_w]
                    rfl
                  refine pure_ (i := 12) (N := some 39) (v := ?_) (a' := ?_) #[true, true, true, true, true, true, true, true, true, true, true, true, true, false, false, false, false, false, false, false, false, false, false, false, false, false, false] rfl rfl (any_of HT_.out (by kernel_rfl)) (fun _ _ _ h => h) (Or.inl ⟨by rfl, ?_⟩) ?_ ?_
                  rotate_left
                  · intro w'
                    go_simp
                    with_reducible rfl
                  rotate_left
                  · simp only [Act.put, List.setIfInBounds_toArray, List.set_cons_zero, List.set_cons_succ, i64_w, i32_w]
                    rfl
                  refine take_ (i := 13) (N := some 40) (v := ?_) (a' := ?_) #[true, true, true, true, true, true, true, true, true, true, true, true, true, true, false, false, false, false, false, false, false, false, false, false, false, false, false] rfl rfl (take_ofW HT_.out HW_.out (by kernel_rfl)) (fun _ _ _ h => h) (Or.inl ⟨by rfl, ?_⟩) hHeld ?_ ?_
                  rotate_left
                  · rintro w' ⟨s0, s1, s2, s3, s4, s5, s6, s7, s8, s9, s10, s11, s12, s13, s14, s15, s16, s17⟩
                    go_simp
                    with_reducible rfl
                  rotate_left
                  · simp only [Act.put, List.setIfInBounds_toArray, List.set_cons_zero, List.set_cons_succ, i64_w, i32_w]
                    rfl
                  refine pure_ (i := 14) (N := some 41) (v := ?_) (a' := ?_) #[true, true, true, true, true, true, true, true, true, true, true, true, true, true, true, false, false, false, false, false, false, false, false, false, false, false, false] rfl rfl (any_of HT_.out (by kernel_rfl)) (fun _ _ _ h => h) (Or.inl ⟨by rfl, ?_⟩) ?_ ?_
                  rotate_left
                  · intro w'
                    go_simp
                    with_reducible rfl
                  rotate_left
                  · simp only [Act.put, List.setIfInBounds_toArray, List.set_cons_zero, List.set_cons_succ, i64_w, i32_w]
                    rfl
                  refine pure_ (i := 15) (N := some 42) (v := ?_) (a' := ?_) #[true, true, true, true, true, true, true, true, true, true, true, true, true, true, true, true, false, false, false, false, false, false, false, false, false, false, false] rfl rfl (any_of HT_.out (by kernel_rfl)) (fun _ _ _ h => h) (Or.inl ⟨by rfl, ?_⟩) ?_ ?_
                  rotate_left
                  · intro w'
                    go_simp
                    with_reducible rfl
                  rotate_left
                  · simp only [Act.put, List.setIfInBounds_toArray, List.set_cons_zero, List.set_cons_succ, i64_w, i32_w]
                    rfl
                  refine pure_ (i := 16) (N := some 43) (v := ?_) (a' := ?_) #[true, true, true, true, true, true, true, true, true, true, true, true, true, true, true, true, true, false, false, false, false, false, false, false, false, false, false] rfl rfl (any_of HT_.out (by kernel_rfl)) (fun _ _ _ h => h) (Or.inl ⟨by rfl, ?_⟩) ?_ ?_
                  rotate_left
                  · intro w'
                    go_simp
                    with_reducible rfl
                  rotate_left
                  · simp only [Act.put, List.setIfInBounds_toArray, List.set_cons_zero, List.set_cons_succ, i64_w, i32_w]
                    rfl
                  refine pure_ (i := 17) (N := some 44) (v := undef) (a' := ?_) #[true, true, true, true, true, true, true, true, true, true, true, true, true, true, true, true, true, true, false, false, false, false, false, false, false, false, false] rfl rfl (any_of HT_.out (by kernel_rfl)) (fun _ _ _ h => h) (Or.inr ⟨by rfl, rfl⟩) ?_ ?_
                  rotate_left
                  · simp only [Act.put, List.setIfInBounds_toArray, List.set_cons_zero, List.set_cons_succ, i64_w, i32_w]
                    rfl
                  refine pure_ (i := 18) (N := some 45) (v := undef) (a' := ?_) #[true, true, true, true, true, true, true, true, true, true, true, true, true, true, true, true, true, true, true, false, false, false, false, false, false, false, false] rfl rfl (any_of HT_.out (by kernel_rfl)) (fun _ _ _ h => h) (Or.inr ⟨by rfl, rfl⟩) ?_ ?_
                  rotate_left
                  · simp only [Act.put, List.setIfInBounds_toArray, List.set_cons_zero, List.set_cons_succ, i64_w, i32_w]
                    rfl
                  refine pure_ (i := 19) (N := some 46) (v := undef) (a' := ?_) #[true, true, true, true, true, true, true, true, true, true, true, true, true, true, true, true, true, true, true, true, false, false, false, false, false, false, false] rfl rfl (any_of HT_.out (by kernel_rfl)) (fun _ _ _ h => h) (Or.inr ⟨by rfl, rfl⟩) ?_ ?_
                  rotate_left
                  · simp only [Act.put, List.setIfInBounds_toArray, List.set_cons_zero, List.set_cons_succ, i64_w, i32_w]
                    rfl
                  refine pure_ (i := 20) (N := some 47) (v := undef) (a' := ?_) #[true, true, true, true, true, true, true, true, true, true, true, true, true, true, true, true, true, true, true, true, true, false, false, false, false, false, false] rfl rfl (any_of HT_.out (by kernel_rfl)) (fun _ _ _ h => h) (Or.inr ⟨by rfl, rfl⟩) ?_ ?_
                  rotate_left
                  · simp only [Act.put, List.setIfInBounds_toArray, List.set_cons_zero, List.set_cons_succ, i64_w, i32_w]
                    rfl
                  refine pure_ (i := 21) (N := some 48) (v := undef) (a' := ?_) #[true, true, true, true, true, true, true, true, true, true, true, true, true, true, true, true, true, true, true, true, true, true, false, false, false, false, false] rfl rfl (any_of HT_.out (by kernel_rfl)) (fun _ _ _ h => h) (Or.inr ⟨by rfl, rfl⟩) ?_ ?_
                  rotate_left
                  · simp only [Act.put, List.setIfInBounds_toArray, List.set_cons_zero, List.set_cons_succ, i64_w, i32_w]
                    rfl
                  refine pure_ (i := 22) (N := some 49) (v := undef) (a' := ?_) #[true, true, true, true, true, true, true, true, true, true, true, true, true, true, true, true, true, true, true, true, true, true, true, false, false, false, false] rfl rfl (any_of HT_.out (by kernel_rfl)) (fun _ _ _ h => h) (Or.inr ⟨by rfl, rfl⟩) ?_ ?_
                  rotate_left
                  · simp only [Act.put, List.setIfInBounds_toArray, List.set_cons_zero, List.set_cons_succ, i64_w, i32_w]
                    rfl
                  refine pure_ (i := 23) (N := some 50) (v := undef) (a' := ?_) #[true, true, true, true, true, true, true, true, true, true, true, true, true, true, true, true, true, true, true, true, true, true, true, true, false, false, false] rfl rfl (any_of HT_.out (by kernel_rfl)) (fun _ _ _ h => h) (Or.inr ⟨by rfl, rfl⟩) ?_ ?_
                  rotate_left
                  · simp only [Act.put, List.setIfInBounds_toArray, List.set_cons_zero, List.set_cons_succ, i64_w, i32_w]
                    rfl
                  refine pure_ (i := 24) (N := some 51) (v := undef) (a' := ?_) #[true, true, true, true, true, true, true, true, true, true, true, true, true, true, true, true, true, true, true, true, true, true, true, true, true, false, false] rfl rfl (any_of HT_.out (by kernel_rfl)) (fun _ _ _ h => h) (Or.inr ⟨by rfl, rfl⟩) ?_ ?_
                  rotate_left
                  · simp only [Act.put, List.setIfInBounds_toArray, List.set_cons_zero, List.set_cons_succ, i64_w, i32_w]
                    rfl
                  refine pure_ (i := 25) (N := some 52) (v := undef) (a' := ?_) #[true, true, true, true, true, true, true, true, true, true, true, true, true, true, true, true, true, true, true, true, true, true, true, true, true, true, false] rfl rfl (any_of HT_.out (by kernel_rfl)) (fun _ _ _ h => h) (Or.inr ⟨by rfl, rfl⟩) ?_ ?_
                  rotate_left
                  · simp only [Act.put, List.setIfInBounds_toArray, List.set_cons_zero, List.set_cons_succ, i64_w, i32_w]
                    rfl
                  refine pure_ (i := 26) (N := some 53) (v := ?_) (a' := ?_) #[true, true, true, true, true, true, true, true, true, true, true, true, true, true, true, true, true, true, true, true, true, true, true, true, true, true, true] rfl rfl (any_of HT_.out (by kernel_rfl)) (fun _ _ _ h => h) (Or.inl ⟨by rfl, ?_⟩) ?_ ?_
                  rotate_left
                  · intro w'
                    go_simp
                    with_reducible rfl
                  rotate_left
                  · simp only [Act.put, List.setIfInBounds_toArray, List.set_cons_zero, List.set_cons_succ, i64_w, i32_w]
                    rfl
                  refine done_ (done_of HT_.out (by kernel_rfl)) ?_
                  try go_wp2
                  go_roundg k1
                  case measure => have := HK1.out; omega
                  case rel => exact ⟨(x5_1), (wrap64 (x6_1 + 1)), (by first | rfl | (simp; done) | (simp [*]; done)), (by first | rfl | (simp; done) | (simp [*]; done)), H', ⟨by have := HK1.out; omega⟩, ⟨by (with_reducible repeat (first | refine blk_drewN ?_ _ | refine blk_drew ?_ | refine blk_alloc ?_ _)); exact BK332.out⟩, ⟨by repeat (first | (with_reducible first | exact HB.out | apply below_alloc | apply pw_below_drewN | apply below_drew1 | refine below_set ?_ GE332.out) | exact HB.out)⟩⟩
                · replace c16 := Bool.eq_false_iff.mpr c16
                  subst c16
                  have H1 : ((shutterref10_Next.f a0_0 a0_1 l0_2 a0_3 a0_4 a0_5 x6_1).bind fun t338 => (if 0 ≤ t338 then (if t338 < (l0_2.length : Int) then (if ((rd_T39 l0_2 t338).f0 = true) then (shutterlaw11_FieldRound.l0 k1 a1 x5_1 (wrap64 (x6_1 + 1)) a0_0 a0_1 l0_2 a0_3 a0_4 a0_5) else (shutterlaw11_FieldRound.l0 k1 a1 (wrap64 (x5_1 + 1)) (wrap64 (x6_1 + 1)) a0_0 a0_1 l0_2 a0_3 a0_4 a0_5)) else (none)) else (none))) = some r := by rw [if_neg (show ¬ (false = true) by decide)] at H; exact H
                  clear H
                  have H := H1
                  clear H1
                  replace H := Option.bind_eq_some_iff.mp H
                  obtain ⟨t338, A190, H⟩ := H
                  replace H : (if 0 ≤ t338 then (if t338 < (l0_2.length : Int) then (if ((rd_T39 l0_2 t338).f0 = true) then (shutterlaw11_FieldRound.l0 k1 a1 x5_1 (wrap64 (x6_1 + 1)) a0_0 a0_1 l0_2 a0_3 a0_4 a0_5) else (shutterlaw11_FieldRound.l0 k1 a1 (wrap64 (x5_1 + 1)) (wrap64 (x6_1 + 1)) a0_0 a0_1 l0_2 a0_3 a0_4 a0_5)) else (none)) else (none)) = some r := H
                  have A19 := Aside0.mk A190
                  clear A190
                  by_cases c20 : 0 ≤ t338
                  · rw [if_pos c20] at H
                    have c20b0 : decide (0 ≤ t338) = true := decide_eq_true c20
                    clear c20
                    by_cases c21 : t338 < (l0_2.length : Int)
                    · rw [if_pos c21] at H
                      have c21b0 : decide (t338 < (l0_2.length : Int)) = true := decide_eq_true c21
                      clear c21
                      obtain ⟨bq22, hbq22⟩ : ∃ b_ : Bool, b_ = ((rd_T39 l0_2 t338).f0) := ⟨_, rfl⟩
                      replace H : (if (bq22 = true) then (shutterlaw11_FieldRound.l0 k1 a1 x5_1 (wrap64 (x6_1 + 1)) a0_0 a0_1 l0_2 a0_3 a0_4 a0_5) else (shutterlaw11_FieldRound.l0 k1 a1 (wrap64 (x5_1 + 1)) (wrap64 (x6_1 + 1)) a0_0 a0_1 l0_2 a0_3 a0_4 a0_5)) = some r := by rw [← hbq22] at H; exact H
                      have Nbq22 := Aside0.mk hbq22
                      clear hbq22
                      by_cases c23 : (bq22 = true)
                      · subst c23
                        have H1 : (shutterlaw11_FieldRound.l0 k1 a1 x5_1 (wrap64 (x6_1 + 1)) a0_0 a0_1 l0_2 a0_3 a0_4 a0_5) = some r := by rw [if_pos rfl] at H; exact H
                        clear H
                        have H := H1
                        clear H1
                        have H' := Aside0.mk H
                        clear H
                        have hcz24_0 : wr.cell? ⟨gb332, 0, none⟩ = some (.int .i64 a0_0) := (blk_cell BK332.out 0).trans rfl
                        have hcz24_1 : wr.cell? ⟨gb332, 1, none⟩ = some (.int .i64 a0_1) := (blk_cell BK332.out 1).trans rfl
                        have hcz24_2 : wr.cell? ⟨gb332, 2, none⟩ = some (.slice A0_2 l0_2.length c0_2) := (blk_cell BK332.out 2).trans rfl
                        have hcz24_3 : wr.cell? ⟨gb332, 3, none⟩ = some (.int .i64 a0_3) := (blk_cell BK332.out 3).trans rfl
                        have hcz24_4 : wr.cell? ⟨gb332, 4, none⟩ = some (.bool a0_4) := (blk_cell BK332.out 4).trans rfl
                        have hcz24_5 : wr.cell? ⟨gb332, 5, none⟩ = some (.bool a0_5) := (blk_cell BK332.out 5).trans rfl
                        have hfz24_0 := blk_frozen BK332.out 0
                        have hfz24_1 := blk_frozen BK332.out 1
                        have hfz24_2 := blk_frozen BK332.out 2
                        have hfz24_3 := blk_frozen BK332.out 3
                        have hfz24_4 := blk_frozen BK332.out 4
                        have hfz24_5 := blk_frozen BK332.out 5
                        try go_wp2
                        have n0_ := Aside0.mk (blk_drew BK332.out)
                        have n1_ := Aside0.mk (below_drew1 HB.out)
                        clear BK332
                        clear HB
                        have BK332 := n0_
                        have HB := n1_
                        clear n0_ n1_
                        have p336 : 0 ≤ (x6_1 : Int) := of_decide_eq_true (by first | (with_reducible assumption) | assumption)
                        have q336 : x6_1 < (l0_2.length : Int) := of_decide_eq_true (by first | (with_reducible assumption) | assumption)
                        obtain ⟨ad336, e336, hx336_0, hx336_1, hx336_2, hx336_3, hx336_4, hx336_5⟩ := at_T39 HR0_2.out x6_1 p336 q336
                        have hw336_5 := hx336_5
                        (try rw [← Nbq13.out] at hw336_5)
                        (try rw [← Nbq15.out] at hw336_5)
                        (try rw [← Nbq22.out] at hw336_5)
                        have hw336_4 := hx336_4
                        (try rw [← Nbq13.out] at hw336_4)
                        (try rw [← Nbq15.out] at hw336_4)
                        (try rw [← Nbq22.out] at hw336_4)
                        have hw336_3 := hx336_3
                        (try rw [← Nbq13.out] at hw336_3)
                        (try rw [← Nbq15.out] at hw336_3)
                        (try rw [← Nbq22.out] at hw336_3)
                        have hw336_2 := hx336_2
                        (try rw [← Nbq13.out] at hw336_2)
                        (try rw [← Nbq15.out] at hw336_2)
                        (try rw [← Nbq22.out] at hw336_2)
                        have hw336_1 := hx336_1
                        (try rw [← Nbq13.out] at hw336_1)
                        (try rw [← Nbq15.out] at hw336_1)
                        (try rw [← Nbq22.out] at hw336_1)
                        have hw336_0 := hx336_0
                        (try rw [← Nbq13.out] at hw336_0)
                        (try rw [← Nbq15.out] at hw336_0)
                        (try rw [← Nbq22.out] at hw336_0)
                        (try rw [← Nbq13.out] at hx336_0)
                        (try rw [← Nbq15.out] at hx336_0)
                        (try rw [← Nbq22.out] at hx336_0)
                        (try rw [← Nbq13.out] at hx336_1)
                        (try rw [← Nbq15.out] at hx336_1)
                        (try rw [← Nbq22.out] at hx336_1)
                        (try rw [← Nbq13.out] at hx336_2)
                        (try rw [← Nbq15.out] at hx336_2)
                        (try rw [← Nbq22.out] at hx336_2)
                        (try rw [← Nbq13.out] at hx336_4)
                        (try rw [← Nbq15.out] at hx336_4)
                        (try rw [← Nbq22.out] at hx336_4)
                        cases e336
                        replace hx336_0 := (HB.out.cell (World.block_lt_of_cell? w _ hx336_0)).trans hx336_0
                        replace hx336_1 := (HB.out.cell (World.block_lt_of_cell? w _ hx336_1)).trans hx336_1
                        replace hx336_2 := (HB.out.cell (World.block_lt_of_cell? w _ hx336_2)).trans hx336_2
                        replace hx336_3 := (HB.out.cell (World.block_lt_of_cell? w _ hx336_3)).trans hx336_3
                        replace hx336_4 := (HB.out.cell (World.block_lt_of_cell? w _ hx336_4)).trans hx336_4
                        replace hx336_5 := (HB.out.cell (World.block_lt_of_cell? w _ hx336_5)).trans hx336_5
                        replace p336 := eq_true p336
                        replace q336 := eq_true q336
                        have p337 : 0 ≤ (x6_1 : Int) := of_decide_eq_true (by first | (with_reducible assumption) | assumption)
                        have q337 : x6_1 < (l0_2.length : Int) := of_decide_eq_true (by first | (with_reducible assumption) | assumption)
                        obtain ⟨ad337, e337, hx337_0, hx337_1, hx337_2, hx337_3, hx337_4, hx337_5⟩ := at_T39 HR0_2.out x6_1 p337 q337
                        have hw337_5 := hx337_5
                        (try rw [← Nbq13.out] at hw337_5)
                        (try rw [← Nbq15.out] at hw337_5)
                        (try rw [← Nbq22.out] at hw337_5)
                        have hw337_4 := hx337_4
                        (try rw [← Nbq13.out] at hw337_4)
                        (try rw [← Nbq15.out] at hw337_4)
                        (try rw [← Nbq22.out] at hw337_4)
                        have hw337_3 := hx337_3
                        (try rw [← Nbq13.out] at hw337_3)
                        (try rw [← Nbq15.out] at hw337_3)
                        (try rw [← Nbq22.out] at hw337_3)
                        have hw337_2 := hx337_2
                        (try rw [← Nbq13.out] at hw337_2)
                        (try rw [← Nbq15.out] at hw337_2)
                        (try rw [← Nbq22.out] at hw337_2)
                        have hw337_1 := hx337_1
                        (try rw [← Nbq13.out] at hw337_1)
                        (try rw [← Nbq15.out] at hw337_1)
                        (try rw [← Nbq22.out] at hw337_1)
                        have hw337_0 := hx337_0
                        (try rw [← Nbq13.out] at hw337_0)
                        (try rw [← Nbq15.out] at hw337_0)
                        (try rw [← Nbq22.out] at hw337_0)
                        (try rw [← Nbq13.out] at hx337_0)
                        (try rw [← Nbq15.out] at hx337_0)
                        (try rw [← Nbq22.out] at hx337_0)
                        (try rw [← Nbq13.out] at hx337_1)
                        (try rw [← Nbq15.out] at hx337_1)
                        (try rw [← Nbq22.out] at hx337_1)
                        (try rw [← Nbq13.out] at hx337_2)
                        (try rw [← Nbq15.out] at hx337_2)
                        (try rw [← Nbq22.out] at hx337_2)
                        (try rw [← Nbq13.out] at hx337_4)
                        (try rw [← Nbq15.out] at hx337_4)
                        (try rw [← Nbq22.out] at hx337_4)
                        obtain rfl : ad336 = ad337 := (by injection e337)
                        replace hx337_0 := (HB.out.cell (World.block_lt_of_cell? w _ hx337_0)).trans hx337_0
                        replace hx337_1 := (HB.out.cell (World.block_lt_of_cell? w _ hx337_1)).trans hx337_1
                        replace hx337_2 := (HB.out.cell (World.block_lt_of_cell? w _ hx337_2)).trans hx337_2
                        replace hx337_3 := (HB.out.cell (World.block_lt_of_cell? w _ hx337_3)).trans hx337_3
                        replace hx337_4 := (HB.out.cell (World.block_lt_of_cell? w _ hx337_4)).trans hx337_4
                        replace hx337_5 := (HB.out.cell (World.block_lt_of_cell? w _ hx337_5)).trans hx337_5
                        replace p337 := eq_true p337
                        replace q337 := eq_true q337
                        have p339 : 0 ≤ (t338 : Int) := of_decide_eq_true (by first | (with_reducible assumption) | assumption)
                        have q339 : t338 < (l0_2.length : Int) := of_decide_eq_true (by first | (with_reducible assumption) | assumption)
                        obtain ⟨ad339, e339, hx339_0, hx339_1, hx339_2, hx339_3, hx339_4, hx339_5⟩ := at_T39 HR0_2.out t338 p339 q339
                        have hw339_5 := hx339_5
                        (try rw [← Nbq13.out] at hw339_5)
                        (try rw [← Nbq15.out] at hw339_5)
                        (try rw [← Nbq22.out] at hw339_5)
                        have hw339_4 := hx339_4
                        (try rw [← Nbq13.out] at hw339_4)
                        (try rw [← Nbq15.out] at hw339_4)
                        (try rw [← Nbq22.out] at hw339_4)
                        have hw339_3 := hx339_3
                        (try rw [← Nbq13.out] at hw339_3)
                        (try rw [← Nbq15.out] at hw339_3)
                        (try rw [← Nbq22.out] at hw339_3)
                        have hw339_2 := hx339_2
                        (try rw [← Nbq13.out] at hw339_2)
                        (try rw [← Nbq15.out] at hw339_2)
                        (try rw [← Nbq22.out] at hw339_2)
                        have hw339_1 := hx339_1
                        (try rw [← Nbq13.out] at hw339_1)
                        (try rw [← Nbq15.out] at hw339_1)
                        (try rw [← Nbq22.out] at hw339_1)
                        have hw339_0 := hx339_0
                        (try rw [← Nbq13.out] at hw339_0)
                        (try rw [← Nbq15.out] at hw339_0)
                        (try rw [← Nbq22.out] at hw339_0)
                        (try rw [← Nbq13.out] at hx339_0)
                        (try rw [← Nbq15.out] at hx339_0)
                        (try rw [← Nbq22.out] at hx339_0)
                        (try rw [← Nbq13.out] at hx339_1)
                        (try rw [← Nbq15.out] at hx339_1)
                        (try rw [← Nbq22.out] at hx339_1)
                        (try rw [← Nbq13.out] at hx339_2)
                        (try rw [← Nbq15.out] at hx339_2)
                        (try rw [← Nbq22.out] at hx339_2)
                        (try rw [← Nbq13.out] at hx339_4)
                        (try rw [← Nbq15.out] at hx339_4)
                        (try rw [← Nbq22.out] at hx339_4)
                        obtain rfl : ad336 = ad339 := (by injection e339)
                        replace hx339_0 := (HB.out.cell (World.block_lt_of_cell? w _ hx339_0)).trans hx339_0
                        replace hx339_1 := (HB.out.cell (World.block_lt_of_cell? w _ hx339_1)).trans hx339_1
                        replace hx339_2 := (HB.out.cell (World.block_lt_of_cell? w _ hx339_2)).trans hx339_2
                        replace hx339_3 := (HB.out.cell (World.block_lt_of_cell? w _ hx339_3)).trans hx339_3
                        replace hx339_4 := (HB.out.cell (World.block_lt_of_cell? w _ hx339_4)).trans hx339_4
                        replace hx339_5 := (HB.out.cell (World.block_lt_of_cell? w _ hx339_5)).trans hx339_5
                        replace p339 := eq_true p339
                        replace q339 := eq_true q339
                        refine start_ (n := 27) (S := fun w' => w'.cell? ⟨gb332, 0, none⟩ = some (.int .i64 a0_0) ∧ w'.cell? ⟨gb332, 1, none⟩ = some (.int .i64 a0_1) ∧ w'.cell? ⟨gb332, 2, none⟩ = some (.slice (some ad336) l0_2.length c0_2) ∧ w'.cell? ⟨gb332, 3, none⟩ = some (.int .i64 a0_3) ∧ w'.cell? ⟨gb332, 4, none⟩ = some (.bool a0_4) ∧ w'.cell? ⟨gb332, 5, none⟩ = some (.bool a0_5) ∧ w'.cell? (ad336.add ((x6_1).toNat * 6)) = some (.bool true) ∧ w'.cell? ⟨(ad336.add ((x6_1).toNat * 6)).block, (ad336.add ((x6_1).toNat * 6)).off + 1, none⟩ = some (.bool false) ∧ w'.cell? ⟨(ad336.add ((x6_1).toNat * 6)).block, (ad336.add ((x6_1).toNat * 6)).off + 2, none⟩ = some (.bool ((rd_T39 l0_2 x6_1).f1.f1)) ∧ w'.cell? ⟨(ad336.add ((x6_1).toNat * 6)).block, (ad336.add ((x6_1).toNat * 6)).off + 3, none⟩ = some (.int .i64 ((rd_T39 l0_2 x6_1).f1.f2)) ∧ w'.cell? ⟨(ad336.add ((x6_1).toNat * 6)).block, (ad336.add ((x6_1).toNat * 6)).off + 4, none⟩ = some (.bool ((rd_T39 l0_2 x6_1).f1.f3)) ∧ w'.cell? ⟨(ad336.add ((x6_1).toNat * 6)).block, (ad336.add ((x6_1).toNat * 6)).off + 5, none⟩ = some (.int .u8 ((rd_T39 l0_2 x6_1).f2)) ∧ w'.cell? (ad336.add ((x6_1).toNat * 6)) = some (.bool (true)) ∧ w'.cell? ⟨(ad336.add ((x6_1).toNat * 6)).block, (ad336.add ((x6_1).toNat * 6)).off + 1, none⟩ = some (.bool false) ∧ w'.cell? ⟨(ad336.add ((x6_1).toNat * 6)).block, (ad336.add ((x6_1).toNat * 6)).off + 2, none⟩ = some (.bool ((rd_T39 l0_2 x6_1).f1.f1)) ∧ w'.cell? ⟨(ad336.add ((x6_1).toNat * 6)).block, (ad336.add ((x6_1).toNat * 6)).off + 3, none⟩ = some (.int .i64 ((rd_T39 l0_2 x6_1).f1.f2)) ∧ w'.cell? ⟨(ad336.add ((x6_1).toNat * 6)).block, (ad336.add ((x6_1).toNat * 6)).off + 4, none⟩ = some (.bool ((rd_T39 l0_2 x6_1).f1.f3)) ∧ w'.cell? ⟨(ad336.add ((x6_1).toNat * 6)).block, (ad336.add ((x6_1).toNat * 6)).off + 5, none⟩ = some (.int .u8 ((rd_T39 l0_2 x6_1).f2)) ∧ w'.cell? (ad336.add ((t338).toNat * 6)) = some (.bool true) ∧ w'.cell? ⟨(ad336.add ((t338).toNat * 6)).block, (ad336.add ((t338).toNat * 6)).off + 1, none⟩ = some (.bool ((rd_T39 l0_2 t338).f1.f0)) ∧ w'.cell? ⟨(ad336.add ((t338).toNat * 6)).block, (ad336.add ((t338).toNat * 6)).off + 2, none⟩ = some (.bool ((rd_T39 l0_2 t338).f1.f1)) ∧ w'.cell? ⟨(ad336.add ((t338).toNat * 6)).block, (ad336.add ((t338).toNat * 6)).off + 3, none⟩ = some (.int .i64 ((rd_T39 l0_2 t338).f1.f2)) ∧ w'.cell? ⟨(ad336.add ((t338).toNat * 6)).block, (ad336.add ((t338).toNat * 6)).off + 4, none⟩ = some (.bool ((rd_T39 l0_2 t338).f1.f3)) ∧ w'.cell? ⟨(ad336.add ((t338).toNat * 6)).block, (ad336.add ((t338).toNat * 6)).off + 5, none⟩ = some (.int .u8 ((rd_T39 l0_2 t338).f2))) (ds := []) #[false, false, false, false, false, false, false, false, false, false, false, false, false, false, false, false, false, false, false, false, false, false, false, false, false, false, false] (by kernel_rfl) rfl rfl ⟨(blk_cell BK332.out 0).trans rfl, (blk_cell BK332.out 1).trans rfl, (blk_cell BK332.out 2).trans rfl, (blk_cell BK332.out 3).trans rfl, (blk_cell BK332.out 4).trans rfl, (blk_cell BK332.out 5).trans rfl, ((HB.out.cell (World.block_lt_of_cell? w _ hw336_0)).trans hw336_0), ((HB.out.cell (World.block_lt_of_cell? w _ hw336_1)).trans hw336_1), ((HB.out.cell (World.block_lt_of_cell? w _ hw336_2)).trans hw336_2), ((HB.out.cell (World.block_lt_of_cell? w _ hw336_3)).trans hw336_3), ((HB.out.cell (World.block_lt_of_cell? w _ hw336_4)).trans hw336_4), ((HB.out.cell (World.block_lt_of_cell? w _ hw336_5)).trans hw336_5), ((HB.out.cell (World.block_lt_of_cell? w _ hw337_0)).trans hw337_0), ((HB.out.cell (World.block_lt_of_cell? w _ hw337_1)).trans hw337_1), ((HB.out.cell (World.block_lt_of_cell? w _ hw337_2)).trans hw337_2), ((HB.out.cell (World.block_lt_of_cell? w _ hw337_3)).trans hw337_3), ((HB.out.cell (World.block_lt_of_cell? w _ hw337_4)).trans hw337_4), ((HB.out.cell (World.block_lt_of_cell? w _ hw337_5)).trans hw337_5), ((HB.out.cell (World.block_lt_of_cell? w _ hw339_0)).trans hw339_0), ((HB.out.cell (World.block_lt_of_cell? w _ hw339_1)).trans hw339_1), ((HB.out.cell (World.block_lt_of_cell? w _ hw339_2)).trans hw339_2), ((HB.out.cell (World.block_lt_of_cell? w _ hw339_3)).trans hw339_3), ((HB.out.cell (World.block_lt_of_cell? w _ hw339_4)).trans hw339_4), ((HB.out.cell (World.block_lt_of_cell? w _ hw339_5)).trans hw339_5)⟩ (fun hHeld => ?_); refine with_tabW shutterlaw11_FieldRound.tab7 shutterlaw11_FieldRound.bits7 (fun HT_ HW_ => ?_)
                        generalize wr.drew = w25 at BK332 HB hx336_0 hx336_1 hx336_2 hx336_3 hx336_4 hx336_5 hx337_0 hx337_1 hx337_2 hx337_3 hx337_4 hx337_5 hx339_0 hx339_1 hx339_2 hx339_3 hx339_4 hx339_5 hHeld ⊢
                        refine pure_ (i := 0) (N := some 27) (v := ?_) (a' := ?_) #[true, false, false, false, false, false, false, false, false, false, false, false, false, false, false, false, false, false, false, false, false, false, false, false, false, false, false] rfl rfl (any_of HT_.out (by kernel_rfl)) (fun _ _ _ h => h) (Or.inl ⟨by rfl, ?_⟩) ?_ ?_
                        rotate_left
                        · intro w'
                          go_simp
                          with_reducible rfl
                        rotate_left
                        · simp only [Act.put, List.setIfInBounds_toArray, List.set_cons_zero, List.set_cons_succ, i64_w, i32_w]
                          rfl
                        refine pure_ (i := 2) (N := some 29) (v := ?_) (a' := ?_) #[true, false, true, false, false, false, false, false, false, false, false, false, false, false, false, false, false, false, false, false, false, false, false, false, false, false, false] rfl rfl (any_of HT_.out (by kernel_rfl)) (fun _ _ _ h => h) (Or.inl ⟨by rfl, ?_⟩) ?_ ?_
                        rotate_left
                        · intro w'
                          go_simp
                          with_reducible rfl
                        rotate_left
                        · simp only [Act.put, List.setIfInBounds_toArray, List.set_cons_zero, List.set_cons_succ, i64_w, i32_w]
                          rfl
                        refine take_ (i := 1) (N := some 28) (v := ?_) (a' := ?_) #[true, true, true, false, false, false, false, false, false, false, false, false, false, false, false, false, false, false, false, false, false, false, false, false, false, false, false] rfl rfl (take_ofW HT_.out HW_.out (by kernel_rfl)) (fun _ _ _ h => h) (Or.inl ⟨by rfl, ?_⟩) hHeld ?_ ?_
                        rotate_left
                        · rintro w' ⟨s0, s1, s2, s3, s4, s5, s6, s7, s8, s9, s10, s11, s12, s13, s14, s15, s16, s17, s18, s19, s20, s21, s22, s23⟩
                          go_simp
                          with_reducible rfl
                        rotate_left
                        · simp only [Act.put, List.setIfInBounds_toArray, List.set_cons_zero, List.set_cons_succ, i64_w, i32_w]
                          rfl
                        refine pure_ (i := 3) (N := some 30) (v := ?_) (a' := ?_) #[true, true, true, true, false, false, false, false, false, false, false, false, false, false, false, false, false, false, false, false, false, false, false, false, false, false, false] rfl rfl (any_of HT_.out (by kernel_rfl)) (fun _ _ _ h => h) (Or.inl ⟨by rfl, ?_⟩) ?_ ?_
                        rotate_left
                        · intro w'
                          go_simp
                          with_reducible rfl
                        rotate_left
                        · simp only [Act.put, List.setIfInBounds_toArray, List.set_cons_zero, List.set_cons_succ, i64_w, i32_w]
                          rfl
                        refine pure_ (i := 4) (N := some 31) (v := ?_) (a' := ?_) #[true, true, true, true, true, false, false, false, false, false, false, false, false, false, false, false, false, false, false, false, false, false, false, false, false, false, false] rfl rfl (any_of HT_.out (by kernel_rfl)) (fun _ _ _ h => h) (Or.inl ⟨by rfl, ?_⟩) ?_ ?_
                        rotate_left
                        · intro w'
                          go_simp
                          with_reducible rfl
                        rotate_left
                        · simp only [Act.put, List.setIfInBounds_toArray, List.set_cons_zero, List.set_cons_succ, i64_w, i32_w]
                          rfl
                        refine take_ (i := 5) (N := some 32) (v := ?_) (a' := ?_) #[true, true, true, true, true, true, false, false, false, false, false, false, false, false, false, false, false, false, false, false, false, false, false, false, false, false, false] rfl rfl (take_ofW HT_.out HW_.out (by kernel_rfl)) (fun _ _ _ h => h) (Or.inl ⟨by rfl, ?_⟩) hHeld ?_ ?_
                        rotate_left
                        · rintro w' ⟨s0, s1, s2, s3, s4, s5, s6, s7, s8, s9, s10, s11, s12, s13, s14, s15, s16, s17, s18, s19, s20, s21, s22, s23⟩
                          go_simp
                          with_reducible rfl
                        rotate_left
                        · simp only [Act.put, List.setIfInBounds_toArray, List.set_cons_zero, List.set_cons_succ, i64_w, i32_w]
                          rfl
                        refine pure_ (i := 6) (N := some 33) (v := ?_) (a' := ?_) #[true, true, true, true, true, true, true, false, false, false, false, false, false, false, false, false, false, false, false, false, false, false, false, false, false, false, false] rfl rfl (any_of HT_.out (by kernel_rfl)) (fun _ _ _ h => h) (Or.inl ⟨by rfl, ?_⟩) ?_ ?_
                        rotate_left
                        · intro w'
                          go_simp
                          with_reducible rfl
                        rotate_left
                        · simp only [Act.put, List.setIfInBounds_toArray, List.set_cons_zero, List.set_cons_succ, i64_w, i32_w]
                          rfl
                        refine pure_ (i := 7) (N := some 34) (v := ?_) (a' := ?_) #[true, true, true, true, true, true, true, true, false, false, false, false, false, false, false, false, false, false, false, false, false, false, false, false, false, false, false] rfl rfl (any_of HT_.out (by kernel_rfl)) (fun _ _ _ h => h) (Or.inl ⟨by rfl, ?_⟩) ?_ ?_
                        rotate_left
                        · intro w'
                          go_simp
                          with_reducible rfl
                        rotate_left
                        · simp only [Act.put, List.setIfInBounds_toArray, List.set_cons_zero, List.set_cons_succ, i64_w, i32_w]
                          rfl
                        refine pure_ (i := 9) (N := some 36) (v := ?_) (a' := ?_) #[true, true, true, true, true, true, true, true, false, true, false, false, false, false, false, false, false, false, false, false, false, false, false, false, false, false, false] rfl rfl (any_of HT_.out (by kernel_rfl)) (fun _ _ _ h => h) (Or.inl ⟨by rfl, ?_⟩) ?_ ?_
                        rotate_left
                        · intro w'
                          go_simp
                          with_reducible rfl
                        rotate_left
                        · simp only [Act.put, List.setIfInBounds_toArray, List.set_cons_zero, List.set_cons_succ, i64_w, i32_w]
                          rfl
                        refine take_ (i := 8) (N := some 35) (v := ?_) (a' := ?_) #[true, true, true, true, true, true, true, true, true, true, false, false, false, false, false, false, false, false, false, false, false, false, false, false, false, false, false] rfl rfl (take_ofW HT_.out HW_.out (by kernel_rfl)) (fun _ _ _ h => h) (Or.inl ⟨by rfl, ?_⟩) hHeld ?_ ?_
                        rotate_left
                        · rintro w' ⟨s0, s1, s2, s3, s4, s5, s6, s7, s8, s9, s10, s11, s12, s13, s14, s15, s16, s17, s18, s19, s20, s21, s22, s23⟩
                          go_simp
                          with_reducible rfl
                        rotate_left
                        · simp only [Act.put, List.setIfInBounds_toArray, List.set_cons_zero, List.set_cons_succ, i64_w, i32_w]
                          rfl
                        refine pure_ (i := 10) (N := some 37) (v := ?_) (a' := ?_) #[true, true, true, true, true, true, true, true, true, true, true, false, false, false, false, false, false, false, false, false, false, false, false, false, false, false, false] rfl rfl (any_of HT_.out (by kernel_rfl)) (fun _ _ _ h => h) (Or.inl ⟨by rfl, ?_⟩) ?_ ?_
                        rotate_left
                        · intro w'
                          go_simp
                          with_reducible rfl
                        rotate_left
                        · simp only [Act.put, List.setIfInBounds_toArray, List.set_cons_zero, List.set_cons_succ, i64_w, i32_w]
                          rfl
                        refine pure_ (i := 11) (N := some 38) (v := ?_) (a' := ?_) #[true, true, true, true, true, true, true, true, true, true, true, true, false, false, false, false, false, false, false, false, false, false, false, false, false, false, false] rfl rfl (any_of HT_.out (by kernel_rfl)) (fun _ _ _ h => h) (Or.inl ⟨by rfl, ?_⟩) ?_ ?_
                        rotate_left
                        · intro w'
                          go_simp
                          with_reducible rfl
                        rotate_left
                        · simp only [Act.put, List.setIfInBounds_toArray, List.set_cons_zero, List.set_cons_succ, i64_w, i32_w]
                          rfl
                        refine pure_ (i := 12) (N := some 39) (v := ?_) (a' := ?_) #[true, true, true, true, true, true, true, true, true, true, true, true, true, false, false, false, false, false, false, false, false, false, false, false, false, false, false] rfl rfl (any_of HT_.out (by kernel_rfl)) (fun _ _ _ h => h) (Or.inl ⟨by rfl, ?_⟩) ?_ ?_
                        rotate_left
                        · intro w'
                          go_simp
                          with_reducible rfl
                        rotate_left
                        · simp only [Act.put, List.setIfInBounds_toArray, List.set_cons_zero, List.set_cons_succ, i64_w, i32_w]
                          rfl
                        refine take_ (i := 13) (N := some 40) (v := ?_) (a' := ?_) #[true, true, true, true, true, true, true, true, true, true, true, true, true, true, false, false, false, false, false, false, false, false, false, false, false, false, false] rfl rfl (take_ofW HT_.out HW_.out (by kernel_rfl)) (fun _ _ _ h => h) (Or.inl ⟨by rfl, ?_⟩) hHeld ?_ ?_
                        rotate_left
                        · rintro w' ⟨s0, s1, s2, s3, s4, s5, s6, s7, s8, s9, s10, s11, s12, s13, s14, s15, s16, s17, s18, s19, s20, s21, s22, s23⟩
                          go_simp
                          with_reducible rfl
                        rotate_left
                        · simp only [Act.put, List.setIfInBounds_toArray, List.set_cons_zero, List.set_cons_succ, i64_w, i32_w]
                          rfl
                        refine pure_ (i := 14) (N := some 41) (v := ?_) (a' := ?_) #[true, true, true, true, true, true, true, true, true, true, true, true, true, true, true, false, false, false, false, false, false, false, false, false, false, false, false] rfl rfl (any_of HT_.out (by kernel_rfl)) (fun _ _ _ h => h) (Or.inl ⟨by rfl, ?_⟩) ?_ ?_
                        rotate_left
                        · intro w'
                          go_simp
                          with_reducible rfl
                        rotate_left
                        · simp only [Act.put, List.setIfInBounds_toArray, List.set_cons_zero, List.set_cons_succ, i64_w, i32_w]
                          rfl
                        refine pure_ (i := 15) (N := some 42) (v := ?_) (a' := ?_) #[true, true, true, true, true, true, true, true, true, true, true, true, true, true, true, true, false, false, false, false, false, false, false, false, false, false, false] rfl rfl (any_of HT_.out (by kernel_rfl)) (fun _ _ _ h => h) (Or.inl ⟨by rfl, ?_⟩) ?_ ?_
                        rotate_left
                        · intro w'
                          go_simp
                          with_reducible rfl
                        rotate_left
                        · simp only [Act.put, List.setIfInBounds_toArray, List.set_cons_zero, List.set_cons_succ, i64_w, i32_w]
                          rfl
                        refine pure_ (i := 16) (N := some 43) (v := ?_) (a' := ?_) #[true, true, true, true, true, true, true, true, true, true, true, true, true, true, true, true, true, false, false, false, false, false, false, false, false, false, false] rfl rfl (any_of HT_.out (by kernel_rfl)) (fun _ _ _ h => h) (Or.inl ⟨by rfl, ?_⟩) ?_ ?_
                        rotate_left
                        · intro w'
                          go_simp
                          with_reducible rfl
                        rotate_left
                        · simp only [Act.put, List.setIfInBounds_toArray, List.set_cons_zero, List.set_cons_succ, i64_w, i32_w]
                          rfl
                        refine pure_ (i := 17) (N := some 44) (v := ?_) (a' := ?_) #[true, true, true, true, true, true, true, true, true, true, true, true, true, true, true, true, true, true, false, false, false, false, false, false, false, false, false] rfl rfl (any_of HT_.out (by kernel_rfl)) (fun _ _ _ h => h) (Or.inl ⟨by rfl, ?_⟩) ?_ ?_
                        rotate_left
                        · intro w'
                          go_simp
                          with_reducible rfl
                        rotate_left
                        · simp only [Act.put, List.setIfInBounds_toArray, List.set_cons_zero, List.set_cons_succ, i64_w, i32_w]
                          rfl
                        refine pure_ (i := 20) (N := some 47) (v := ?_) (a' := ?_) #[true, true, true, true, true, true, true, true, true, true, true, true, true, true, true, true, true, true, false, false, true, false, false, false, false, false, false] rfl rfl (any_of HT_.out (by kernel_rfl)) (fun _ _ _ h => h) (Or.inl ⟨by rfl, ?_⟩) ?_ ?_
                        rotate_left
                        · intro w'
                          go_simp
                          with_reducible rfl
                        rotate_left
                        · simp only [Act.put, List.setIfInBounds_toArray, List.set_cons_zero, List.set_cons_succ, i64_w, i32_w]
                          rfl
                        refine take_ (i := 18) (N := some 45) (v := ?_) (a' := ?_) #[true, true, true, true, true, true, true, true, true, true, true, true, true, true, true, true, true, true, true, false, true, false, false, false, false, false, false] rfl rfl (take_ofW HT_.out HW_.out (by kernel_rfl)) (fun _ _ _ h => h) (Or.inl ⟨by rfl, ?_⟩) hHeld ?_ ?_
                        rotate_left
                        · rintro w' ⟨s0, s1, s2, s3, s4, s5, s6, s7, s8, s9, s10, s11, s12, s13, s14, s15, s16, s17, s18, s19, s20, s21, s22, s23⟩
                          go_simp
                          with_reducible rfl
                        rotate_left
                        · simp only [Act.put, List.setIfInBounds_toArray, List.set_cons_zero, List.set_cons_succ, i64_w, i32_w]
                          rfl
                        refine take_ (i := 19) (N := some 46) (v := ?_) (a' := ?_) #[true, true, true, true, true, true, true, true, true, true, true, true, true, true, true, true, true, true, true, true, true, false, false, false, false, false, false] rfl rfl (take_ofW HT_.out HW_.out (by kernel_rfl)) (fun _ _ _ h => h) (Or.inl ⟨by rfl, ?_⟩) hHeld ?_ ?_
                        rotate_left
                        · rintro w' ⟨s0, s1, s2, s3, s4, s5, s6, s7, s8, s9, s10, s11, s12, s13, s14, s15, s16, s17, s18, s19, s20, s21, s22, s23⟩
                          go_simp
                          with_reducible rfl
                        rotate_left
                        · simp only [Act.put, List.setIfInBounds_toArray, List.set_cons_zero, List.set_cons_succ, i64_w, i32_w]
                          rfl
                        refine one_ (i := 21) (N := some 48) #[true, true, true, true, true, true, true, true, true, true, true, true, true, true, true, true, true, true, true, true, true, true, false, false, false, false, false] rfl rfl (one_of HT_.out (by kernel_rfl)) (by decide) (fun K hK => ?_)
                        refine goes_ Try.func29 (by kernel_rfl) rfl #[.agg #[.int .i64 a0_0, .int .i64 a0_1, .slice (some ad336) l0_2.length c0_2, .int .i64 a0_3, .bool a0_4, .bool a0_5], .int .i64 x6_1] (by rfl) rfl rfl (by (try simp only [List.map_toArray, List.map_cons, List.map_nil]); first | done | rfl | (simp only [List.length_drop, List.length_take]; rfl)) ?_
                        with_reducible refine (shutterref10_Next.calls a0_0 a0_1 _ _ l0_2 a0_3 a0_4 a0_5 x6_1 t338 _ ?side1 ?side2 A19.out).mono ?_
                        (case side1 => repeat (first | exact (Kd.C_below HR0_2.out HB.out) | (with_reducible refine Kd.C_alloc ?_ _) | (with_reducible refine Kd.C_drewN ?_ _) | (with_reducible refine Kd.C_drew ?_)))
                        (case side2 => exact HC0_2.out)
                        rintro e w26 ⟨rfl, hb⟩
                        refine ⟨_, rfl, ?_⟩
                        have n0_ := Aside0.mk (blk_below (g := gb332) (o := .cells #[.int .i64 a0_0, .int .i64 a0_1, .slice (some ad336) l0_2.length c0_2, .int .i64 a0_3, .bool a0_4, .bool a0_5] 24 (0, 0)) (by (with_reducible repeat (first | refine blk_drewN ?_ _ | refine blk_drew ?_ | refine blk_alloc ?_ _)); exact BK332.out) hb)
                        have n1_ := Aside0.mk (below_step (by repeat (first | (with_reducible first | exact HB.out | apply below_alloc | apply pw_below_drewN | apply below_drew1 | refine below_set ?_ GE332.out) | exact HB.out)) hb)
                        clear BK332
                        clear HB
                        have BK332 := n0_
                        have HB := n1_
                        clear n0_ n1_
                        (try clear hb)
                        (try clear hb2)
                        (try clear hk)
                        (try clear hi)
                        refine hK.out _ _ ⟨(blk_cell BK332.out 0).trans rfl, (blk_cell BK332.out 1).trans rfl, (blk_cell BK332.out 2).trans rfl, (blk_cell BK332.out 3).trans rfl, (blk_cell BK332.out 4).trans rfl, (blk_cell BK332.out 5).trans rfl, ((HB.out.cell (World.block_lt_of_cell? w _ hw336_0)).trans hw336_0), ((HB.out.cell (World.block_lt_of_cell? w _ hw336_1)).trans hw336_1), ((HB.out.cell (World.block_lt_of_cell? w _ hw336_2)).trans hw336_2), ((HB.out.cell (World.block_lt_of_cell? w _ hw336_3)).trans hw336_3), ((HB.out.cell (World.block_lt_of_cell? w _ hw336_4)).trans hw336_4), ((HB.out.cell (World.block_lt_of_cell? w _ hw336_5)).trans hw336_5), ((HB.out.cell (World.block_lt_of_cell? w _ hw337_0)).trans hw337_0), ((HB.out.cell (World.block_lt_of_cell? w _ hw337_1)).trans hw337_1), ((HB.out.cell (World.block_lt_of_cell? w _ hw337_2)).trans hw337_2), ((HB.out.cell (World.block_lt_of_cell? w _ hw337_3)).trans hw337_3), ((HB.out.cell (World.block_lt_of_cell? w _ hw337_4)).trans hw337_4), ((HB.out.cell (World.block_lt_of_cell? w _ hw337_5)).trans hw337_5), ((HB.out.cell (World.block_lt_of_cell? w _ hw339_0)).trans hw339_0), ((HB.out.cell (World.block_lt_of_cell? w _ hw339_1)).trans hw339_1), ((HB.out.cell (World.block_lt_of_cell? w _ hw339_2)).trans hw339_2), ((HB.out.cell (World.block_lt_of_cell? w _ hw339_3)).trans hw339_3), ((HB.out.cell (World.block_lt_of_cell? w _ hw339_4)).trans hw339_4), ((HB.out.cell (World.block_lt_of_cell? w _ hw339_5)).trans hw339_5)⟩ (fun hHeld => ?_)
                        clear hK K
                        refine norm_ (a' := ?_) ?_ ?_
                        rotate_left
                        · show Act.put _ (some 48) _ = _
                          simp only [Act.put, List.setIfInBounds_toArray, List.set_cons_zero, List.set_cons_succ, i64_w, i32_w]
                          rfl
                        refine pure_ (i := 22) (N := some 49) (v := ?_) (a' := ?_) #[true, true, true, true, true, true, true, true, true, true, true, true, true, true, true, true, true, true, true, true, true, true, true, false, false, false, false] rfl rfl (any_of HT_.out (by kernel_rfl)) (fun _ _ _ h => h) (Or.inl ⟨by rfl, ?_⟩) ?_ ?_
                        rotate_left
                        · intro w'
                          go_simp
                          with_reducible rfl
                        rotate_left
                        · simp only [Act.put, List.setIfInBounds_toArray, List.set_cons_zero, List.set_cons_succ, i64_w, i32_w]
                          rfl
                        refine pure_ (i := 23) (N := some 50) (v := ?_) (a' := ?_) #[true, true, true, true, true, true, true, true, true, true, true, true, true, true, true, true, true, true, true, true, true, true, true, true, false, false, false] rfl rfl (any_of HT_.out (by kernel_rfl)) (fun _ _ _ h => h) (Or.inl ⟨by rfl, ?_⟩) ?_ ?_
                        rotate_left
                        · intro w'
                          go_simp
                          with_reducible rfl
                        rotate_left
                        · simp only [Act.put, List.setIfInBounds_toArray, List.set_cons_zero, List.set_cons_succ, i64_w, i32_w]
                          rfl
                        refine take_ (i := 24) (N := some 51) (v := ?_) (a' := ?_) #[true, true, true, true, true, true, true, true, true, true, true, true, true, true, true, true, true, true, true, true, true, true, true, true, true, false, false] rfl rfl (take_ofW HT_.out HW_.out (by kernel_rfl)) (fun _ _ _ h => h) (Or.inl ⟨by rfl, ?_⟩) hHeld ?_ ?_
                        rotate_left
                        · rintro w' ⟨s0, s1, s2, s3, s4, s5, s6, s7, s8, s9, s10, s11, s12, s13, s14, s15, s16, s17, s18, s19, s20, s21, s22, s23⟩
                          go_simp
                          with_reducible rfl
                        rotate_left
                        · simp only [Act.put, List.setIfInBounds_toArray, List.set_cons_zero, List.set_cons_succ, i64_w, i32_w]
                          rfl
                        refine pure_ (i := 25) (N := some 52) (v := ?_) (a' := ?_) #[true, true, true, true, true, true, true, true, true, true, true, true, true, true, true, true, true, true, true, true, true, true, true, true, true, true, false] rfl rfl (any_of HT_.out (by kernel_rfl)) (fun _ _ _ h => h) (Or.inl ⟨by rfl, ?_⟩) ?_ ?_
                        rotate_left
                        · intro w'
                          go_simp
                          with_reducible rfl
                        rotate_left
                        · simp only [Act.put, List.setIfInBounds_toArray, List.set_cons_zero, List.set_cons_succ, i64_w, i32_w]
                          rfl
                        refine pure_ (i := 26) (N := some 53) (v := ?_) (a' := ?_) #[true, true, true, true, true, true, true, true, true, true, true, true, true, true, true, true, true, true, true, true, true, true, true, true, true, true, true] rfl rfl (any_of HT_.out (by kernel_rfl)) (fun _ _ _ h => h) (Or.inl ⟨by rfl, ?_⟩) ?_ ?_
                        rotate_left
                        · intro w'
                          go_simp
                          with_reducible rfl
                        rotate_left
                        · simp only [Act.put, List.setIfInBounds_toArray, List.set_cons_zero, List.set_cons_succ, i64_w, i32_w]
                          rfl
                        refine done_ (done_of HT_.out (by kernel_rfl)) ?_
                        try go_wp2
                        go_roundg k1
                        case measure => have := HK1.out; omega
                        case rel => exact ⟨(x5_1), (wrap64 (x6_1 + 1)), (by first | rfl | (simp; done) | (simp [*]; done)), (by first | rfl | (simp; done) | (simp [*]; done)), H', ⟨by have := HK1.out; omega⟩, ⟨by (with_reducible repeat (first | refine blk_drewN ?_ _ | refine blk_drew ?_ | refine blk_alloc ?_ _)); exact BK332.out⟩, ⟨by repeat (first | (with_reducible first | exact HB.out | apply below_alloc | apply pw_below_drewN | apply below_drew1 | refine below_set ?_ GE332.out) | exact HB.out)⟩⟩
                      · replace c23 := Bool.eq_false_iff.mpr c23
                        subst c23
                        have H1 : (shutterlaw11_FieldRound.l0 k1 a1 (wrap64 (x5_1 + 1)) (wrap64 (x6_1 + 1)) a0_0 a0_1 l0_2 a0_3 a0_4 a0_5) = some r := by rw [if_neg (show ¬ (false = true) by decide)] at H; exact H
                        clear H
                        have H := H1
                        clear H1
                        have H' := Aside0.mk H
                        clear H
                        have hcz27_0 : wr.cell? ⟨gb332, 0, none⟩ = some (.int .i64 a0_0) := (blk_cell BK332.out 0).trans rfl
                        have hcz27_1 : wr.cell? ⟨gb332, 1, none⟩ = some (.int .i64 a0_1) := (blk_cell BK332.out 1).trans rfl
                        have hcz27_2 : wr.cell? ⟨gb332, 2, none⟩ = some (.slice A0_2 l0_2.length c0_2) := (blk_cell BK332.out 2).trans rfl
                        have hcz27_3 : wr.cell? ⟨gb332, 3, none⟩ = some (.int .i64 a0_3) := (blk_cell BK332.out 3).trans rfl
                        have hcz27_4 : wr.cell? ⟨gb332, 4, none⟩ = some (.bool a0_4) := (blk_cell BK332.out 4).trans rfl
                        have hcz27_5 : wr.cell? ⟨gb332, 5, none⟩ = some (.bool a0_5) := (blk_cell BK332.out 5).trans rfl
                        have hfz27_0 := blk_frozen BK332.out 0
                        have hfz27_1 := blk_frozen BK332.out 1
                        have hfz27_2 := blk_frozen BK332.out 2
                        have hfz27_3 := blk_frozen BK332.out 3
                        have hfz27_4 := blk_frozen BK332.out 4
                        have hfz27_5 := blk_frozen BK332.out 5
                        try go_wp2
                        have n0_ := Aside0.mk (blk_drew BK332.out)
                        have n1_ := Aside0.mk (below_drew1 HB.out)
                        clear BK332
                        clear HB
                        have BK332 := n0_
                        have HB := n1_
                        clear n0_ n1_
                        have p336 : 0 ≤ (x6_1 : Int) := of_decide_eq_true (by first | (with_reducible assumption) | assumption)
                        have q336 : x6_1 < (l0_2.length : Int) := of_decide_eq_true (by first | (with_reducible assumption) | assumption)
                        obtain ⟨ad336, e336, hx336_0, hx336_1, hx336_2, hx336_3, hx336_4, hx336_5⟩ := at_T39 HR0_2.out x6_1 p336 q336
                        have hw336_5 := hx336_5
                        (try rw [← Nbq13.out] at hw336_5)
                        (try rw [← Nbq15.out] at hw336_5)
                        (try rw [← Nbq22.out] at hw336_5)
                        have hw336_4 := hx336_4
                        (try rw [← Nbq13.out] at hw336_4)
                        (try rw [← Nbq15.out] at hw336_4)
                        (try rw [← Nbq22.out] at hw336_4)
                        have hw336_3 := hx336_3
                        (try rw [← Nbq13.out] at hw336_3)
                        (try rw [← Nbq15.out] at hw336_3)
                        (try rw [← Nbq22.out] at hw336_3)
                        have hw336_2 := hx336_2
                        (try rw [← Nbq13.out] at hw336_2)
                        (try rw [← Nbq15.out] at hw336_2)
                        (try rw [← Nbq22.out] at hw336_2)
                        have hw336_1 := hx336_1
                        (try rw [← Nbq13.out] at hw336_1)
                        (try rw [← Nbq15.out] at hw336_1)
                        (try rw [← Nbq22.out] at hw336_1)
                        have hw336_0 := hx336_0
                        (try rw [← Nbq13.out] at hw336_0)
                        (try rw [← Nbq15.out] at hw336_0)
                        (try rw [← Nbq22.out] at hw336_0)
                        (try rw [← Nbq13.out] at hx336_0)
                        (try rw [← Nbq15.out] at hx336_0)
                        (try rw [← Nbq22.out] at hx336_0)
                        (try rw [← Nbq13.out] at hx336_1)
                        (try rw [← Nbq15.out] at hx336_1)
                        (try rw [← Nbq22.out] at hx336_1)
                        (try rw [← Nbq13.out] at hx336_2)
                        (try rw [← Nbq15.out] at hx336_2)
                        (try rw [← Nbq22.out] at hx336_2)
                        (try rw [← Nbq13.out] at hx336_4)
                        (try rw [← Nbq15.out] at hx336_4)
                        (try rw [← Nbq22.out] at hx336_4)
                        cases e336
                        replace hx336_0 := (HB.out.cell (World.block_lt_of_cell? w _ hx336_0)).trans hx336_0
                        replace hx336_1 := (HB.out.cell (World.block_lt_of_cell? w _ hx336_1)).trans hx336_1
                        replace hx336_2 := (HB.out.cell (World.block_lt_of_cell? w _ hx336_2)).trans hx336_2
                        replace hx336_3 := (HB.out.cell (World.block_lt_of_cell? w _ hx336_3)).trans hx336_3
                        replace hx336_4 := (HB.out.cell (World.block_lt_of_cell? w _ hx336_4)).trans hx336_4
                        replace hx336_5 := (HB.out.cell (World.block_lt_of_cell? w _ hx336_5)).trans hx336_5
                        replace p336 := eq_true p336
                        replace q336 := eq_true q336
                        have p337 : 0 ≤ (x6_1 : Int) := of_decide_eq_true (by first | (with_reducible assumption) | assumption)
                        have q337 : x6_1 < (l0_2.length : Int) := of_decide_eq_true (by first | (with_reducible assumption) | assumption)
                        obtain ⟨ad337, e337, hx337_0, hx337_1, hx337_2, hx337_3, hx337_4, hx337_5⟩ := at_T39 HR0_2.out x6_1 p337 q337
                        have hw337_5 := hx337_5
                        (try rw [← Nbq13.out] at hw337_5)
                        (try rw [← Nbq15.out] at hw337_5)
                        (try rw [← Nbq22.out] at hw337_5)
                        have hw337_4 := hx337_4
                        (try rw [← Nbq13.out] at hw337_4)
                        (try rw [← Nbq15.out] at hw337_4)
                        (try rw [← Nbq22.out] at hw337_4)
                        have hw337_3 := hx337_3
                        (try rw [← Nbq13.out] at hw337_3)
                        (try rw [← Nbq15.out] at hw337_3)
                        (try rw [← Nbq22.out] at hw337_3)
                        have hw337_2 := hx337_2
                        (try rw [← Nbq13.out] at hw337_2)
                        (try rw [← Nbq15.out] at hw337_2)
                        (try rw [← Nbq22.out] at hw337_2)
                        have hw337_1 := hx337_1
                        (try rw [← Nbq13.out] at hw337_1)
                        (try rw [← Nbq15.out] at hw337_1)
                        (try rw [← Nbq22.out] at hw337_1)
                        have hw337_0 := hx337_0
                        (try rw [← Nbq13.out] at hw337_0)
                        (try rw [← Nbq15.out] at hw337_0)
                        (try rw [← Nbq22.out] at hw337_0)
                        (try rw [← Nbq13.out] at hx337_0)
                        (try rw [← Nbq15.out] at hx337_0)
                        (try rw [← Nbq22.out] at hx337_0)
                        (try rw [← Nbq13.out] at hx337_1)
                        (try rw [← Nbq15.out] at hx337_1)
                        (try rw [← Nbq22.out] at hx337_1)
                        (try rw [← Nbq13.out] at hx337_2)
                        (try rw [← Nbq15.out] at hx337_2)
                        (try rw [← Nbq22.out] at hx337_2)
                        (try rw [← Nbq13.out] at hx337_4)
                        (try rw [← Nbq15.out] at hx337_4)
                        (try rw [← Nbq22.out] at hx337_4)
                        obtain rfl : ad336 = ad337 := (by injection e337)
                        replace hx337_0 := (HB.out.cell (World.block_lt_of_cell? w _ hx337_0)).trans hx337_0
                        replace hx337_1 := (HB.out.cell (World.block_lt_of_cell? w _ hx337_1)).trans hx337_1
                        replace hx337_2 := (HB.out.cell (World.block_lt_of_cell? w _ hx337_2)).trans hx337_2
                        replace hx337_3 := (HB.out.cell (World.block_lt_of_cell? w _ hx337_3)).trans hx337_3
                        replace hx337_4 := (HB.out.cell (World.block_lt_of_cell? w _ hx337_4)).trans hx337_4
                        replace hx337_5 := (HB.out.cell (World.block_lt_of_cell? w _ hx337_5)).trans hx337_5
                        replace p337 := eq_true p337
                        replace q337 := eq_true q337
                        have p339 : 0 ≤ (t338 : Int) := of_decide_eq_true (by first | (with_reducible assumption) | assumption)
                        have q339 : t338 < (l0_2.length : Int) := of_decide_eq_true (by first | (with_reducible assumption) | assumption)
                        obtain ⟨ad339, e339, hx339_0, hx339_1, hx339_2, hx339_3, hx339_4, hx339_5⟩ := at_T39 HR0_2.out t338 p339 q339
                        have hw339_5 := hx339_5
                        (try rw [← Nbq13.out] at hw339_5)
                        (try rw [← Nbq15.out] at hw339_5)
                        (try rw [← Nbq22.out] at hw339_5)
                        have hw339_4 := hx339_4
                        (try rw [← Nbq13.out] at hw339_4)
                        (try rw [← Nbq15.out] at hw339_4)
                        (try rw [← Nbq22.out] at hw339_4)
                        have hw339_3 := hx339_3
                        (try rw [← Nbq13.out] at hw339_3)
                        (try rw [← Nbq15.out] at hw339_3)
                        (try rw [← Nbq22.out] at hw339_3)
                        have hw339_2 := hx339_2
                        (try rw [← Nbq13.out] at hw339_2)
                        (try rw [← Nbq15.out] at hw339_2)
                        (try rw [← Nbq22.out] at hw339_2)
                        have hw339_1 := hx339_1
                        (try rw [← Nbq13.out] at hw339_1)
                        (try rw [← Nbq15.out] at hw339_1)
                        (try rw [← Nbq22.out] at hw339_1)
                        have hw339_0 := hx339_0
                        (try rw [← Nbq13.out] at hw339_0)
                        (try rw [← Nbq15.out] at hw339_0)
                        (try rw [← Nbq22.out] at hw339_0)
                        (try rw [← Nbq13.out] at hx339_0)
                        (try rw [← Nbq15.out] at hx339_0)
                        (try rw [← Nbq22.out] at hx339_0)
                        (try rw [← Nbq13.out] at hx339_1)
                        (try rw [← Nbq15.out] at hx339_1)
                        (try rw [← Nbq22.out] at hx339_1)
                        (try rw [← Nbq13.out] at hx339_2)
                        (try rw [← Nbq15.out] at hx339_2)
                        (try rw [← Nbq22.out] at hx339_2)
                        (try rw [← Nbq13.out] at hx339_4)
                        (try rw [← Nbq15.out] at hx339_4)
                        (try rw [← Nbq22.out] at hx339_4)
                        obtain rfl : ad336 = ad339 := (by injection e339)
                        replace hx339_0 := (HB.out.cell (World.block_lt_of_cell? w _ hx339_0)).trans hx339_0
                        replace hx339_1 := (HB.out.cell (World.block_lt_of_cell? w _ hx339_1)).trans hx339_1
                        replace hx339_2 := (HB.out.cell (World.block_lt_of_cell? w _ hx339_2)).trans hx339_2
                        replace hx339_3 := (HB.out.cell (World.block_lt_of_cell? w _ hx339_3)).trans hx339_3
                        replace hx339_4 := (HB.out.cell (World.block_lt_of_cell? w _ hx339_4)).trans hx339_4
                        replace hx339_5 := (HB.out.cell (World.block_lt_of_cell? w _ hx339_5)).trans hx339_5
                        replace p339 := eq_true p339
                        replace q339 := eq_true q339
                        refine start_ (n := 27) (S := fun w' => w'.cell? ⟨gb332, 0, none⟩ = some (.int .i64 a0_0) ∧ w'.cell? ⟨gb332, 1, none⟩ = some (.int .i64 a0_1) ∧ w'.cell? ⟨gb332, 2, none⟩ = some (.slice (some ad336) l0_2.length c0_2) ∧ w'.cell? ⟨gb332, 3, none⟩ = some (.int .i64 a0_3) ∧ w'.cell? ⟨gb332, 4, none⟩ = some (.bool a0_4) ∧ w'.cell? ⟨gb332, 5, none⟩ = some (.bool a0_5) ∧ w'.cell? (ad336.add ((x6_1).toNat * 6)) = some (.bool true) ∧ w'.cell? ⟨(ad336.add ((x6_1).toNat * 6)).block, (ad336.add ((x6_1).toNat * 6)).off + 1, none⟩ = some (.bool false) ∧ w'.cell? ⟨(ad336.add ((x6_1).toNat * 6)).block, (ad336.add ((x6_1).toNat * 6)).off + 2, none⟩ = some (.bool ((rd_T39 l0_2 x6_1).f1.f1)) ∧ w'.cell? ⟨(ad336.add ((x6_1).toNat * 6)).block, (ad336.add ((x6_1).toNat * 6)).off + 3, none⟩ = some (.int .i64 ((rd_T39 l0_2 x6_1).f1.f2)) ∧ w'.cell? ⟨(ad336.add ((x6_1).toNat * 6)).block, (ad336.add ((x6_1).toNat * 6)).off + 4, none⟩ = some (.bool ((rd_T39 l0_2 x6_1).f1.f3)) ∧ w'.cell? ⟨(ad336.add ((x6_1).toNat * 6)).block, (ad336.add ((x6_1).toNat * 6)).off + 5, none⟩ = some (.int .u8 ((rd_T39 l0_2 x6_1).f2)) ∧ w'.cell? (ad336.add ((x6_1).toNat * 6)) = some (.bool (true)) ∧ w'.cell? ⟨(ad336.add ((x6_1).toNat * 6)).block, (ad336.add ((x6_1).toNat * 6)).off + 1, none⟩ = some (.bool false) ∧ w'.cell? ⟨(ad336.add ((x6_1).toNat * 6)).block, (ad336.add ((x6_1).toNat * 6)).off + 2, none⟩ = some (.bool ((rd_T39 l0_2 x6_1).f1.f1)) ∧ w'.cell? ⟨(ad336.add ((x6_1).toNat * 6)).block, (ad336.add ((x6_1).toNat * 6)).off + 3, none⟩ = some (.int .i64 ((rd_T39 l0_2 x6_1).f1.f2)) ∧ w'.cell? ⟨(ad336.add ((x6_1).toNat * 6)).block, (ad336.add ((x6_1).toNat * 6)).off + 4, none⟩ = some (.bool ((rd_T39 l0_2 x6_1).f1.f3)) ∧ w'.cell? ⟨(ad336.add ((x6_1).toNat * 6)).block, (ad336.add ((x6_1).toNat * 6)).off + 5, none⟩ = some (.int .u8 ((rd_T39 l0_2 x6_1).f2)) ∧ w'.cell? (ad336.add ((t338).toNat * 6)) = some (.bool false) ∧ w'.cell? ⟨(ad336.add ((t338).toNat * 6)).block, (ad336.add ((t338).toNat * 6)).off + 1, none⟩ = some (.bool ((rd_T39 l0_2 t338).f1.f0)) ∧ w'.cell? ⟨(ad336.add ((t338).toNat * 6)).block, (ad336.add ((t338).toNat * 6)).off + 2, none⟩ = some (.bool ((rd_T39 l0_2 t338).f1.f1)) ∧ w'.cell? ⟨(ad336.add ((t338).toNat * 6)).block, (ad336.add ((t338).toNat * 6)).off + 3, none⟩ = some (.int .i64 ((rd_T39 l0_2 t338).f1.f2)) ∧ w'.cell? ⟨(ad336.add ((t338).toNat * 6)).block, (ad336.add ((t338).toNat * 6)).off + 4, none⟩ = some (.bool ((rd_T39 l0_2 t338).f1.f3)) ∧ w'.cell? ⟨(ad336.add ((t338).toNat * 6)).block, (ad336.add ((t338).toNat * 6)).off + 5, none⟩ = some (.int .u8 ((rd_T39 l0_2 t338).f2))) (ds := []) #[false, false, false, false, false, false, false, false, false, false, false, false, false, false, false, false, false, false, false, false, false, false, false, false, false, false, false] (by kernel_rfl) rfl rfl ⟨(blk_cell BK332.out 0).trans rfl, (blk_cell BK332.out 1).trans rfl, (blk_cell BK332.out 2).trans rfl, (blk_cell BK332.out 3).trans rfl, (blk_cell BK332.out 4).trans rfl, (blk_cell BK332.out 5).trans rfl, ((HB.out.cell (World.block_lt_of_cell? w _ hw336_0)).trans hw336_0), ((HB.out.cell (World.block_lt_of_cell? w _ hw336_1)).trans hw336_1), ((HB.out.cell (World.block_lt_of_cell? w _ hw336_2)).trans hw336_2), ((HB.out.cell (World.block_lt_of_cell? w _ hw336_3)).trans hw336_3), ((HB.out.cell (World.block_lt_of_cell? w _ hw336_4)).trans hw336_4), ((HB.out.cell (World.block_lt_of_cell? w _ hw336_5)).trans hw336_5), ((HB.out.cell (World.block_lt_of_cell? w _ hw337_0)).trans hw337_0), ((HB.out.cell (World.block_lt_of_cell? w _ hw337_1)).trans hw337_1), ((HB.out.cell (World.block_lt_of_cell? w _ hw337_2)).trans hw337_2), ((HB.out.cell (World.block_lt_of_cell? w _ hw337_3)).trans hw337_3), ((HB.out.cell (World.block_lt_of_cell? w _ hw337_4)).trans hw337_4), ((HB.out.cell (World.block_lt_of_cell? w _ hw337_5)).trans hw337_5), ((HB.out.cell (World.block_lt_of_cell? w _ hw339_0)).trans hw339_0), ((HB.out.cell (World.block_lt_of_cell? w _ hw339_1)).trans hw339_1), ((HB.out.cell (World.block_lt_of_cell? w _ hw339_2)).trans hw339_2), ((HB.out.cell (World.block_lt_of_cell? w _ hw339_3)).trans hw339_3), ((HB.out.cell (World.block_lt_of_cell? w _ hw339_4)).trans hw339_4), ((HB.out.cell (World.block_lt_of_cell? w _ hw339_5)).trans hw339_5)⟩ (fun hHeld => ?_); refine with_tabW shutterlaw11_FieldRound.tab7 shutterlaw11_FieldRound.bits7 (fun HT_ HW_ => ?_)
                        generalize wr.drew = w28 at BK332 HB hx336_0 hx336_1 hx336_2 hx336_3 hx336_4 hx336_5 hx337_0 hx337_1 hx337_2 hx337_3 hx337_4 hx337_5 hx339_0 hx339_1 hx339_2 hx339_3 hx339_4 hx339_5 hHeld ⊢
                        refine pure_ (i := 0) (N := some 27) (v := ?_) (a' := ?_) #[true, false, false, false, false, false, false, false, false, false, false, false, false, false, false, false, false, false, false, false, false, false, false, false, false, false, false] rfl rfl (any_of HT_.out (by kernel_rfl)) (fun _ _ _ h => h) (Or.inl ⟨by rfl, ?_⟩) ?_ ?_
                        rotate_left
                        · intro w'
                          go_simp
                          with_reducible rfl
                        rotate_left
                        · simp only [Act.put, List.setIfInBounds_toArray, List.set_cons_zero, List.set_cons_succ, i64_w, i32_w]
                          rfl
                        refine pure_ (i := 2) (N := some 29) (v := ?_) (a' := ?_) #[true, false, true, false, false, false, false, false, false, false, false, false, false, false, false, false, false, false, false, false, false, false, false, false, false, false, false] rfl rfl (any_of HT_.out (by kernel_rfl)) (fun _ _ _ h => h) (Or.inl ⟨by rfl, ?_⟩) ?_ ?_
                        rotate_left
                        · intro w'
                          go_simp
                          with_reducible rfl
                        rotate_left
                        · simp only [Act.put, List.setIfInBounds_toArray, List.set_cons_zero, List.set_cons_succ, i64_w, i32_w]
                          rfl
                        refine take_ (i := 1) (N := some 28) (v := ?_) (a' := ?_) #[true, true, true, false, false, false, false, false, false, false, false, false, false, false, false, false, false, false, false, false, false, false, false, false, false, false, false] rfl rfl (take_ofW HT_.out HW_.out (by kernel_rfl)) (fun _ _ _ h => h) (Or.inl ⟨by rfl, ?_⟩) hHeld ?_ ?_
                        rotate_left
                        · rintro w' ⟨s0, s1, s2, s3, s4, s5, s6, s7, s8, s9, s10, s11, s12, s13, s14, s15, s16, s17, s18, s19, s20, s21, s22, s23⟩
                          go_simp
                          with_reducible rfl
                        rotate_left
                        · simp only [Act.put, List.setIfInBounds_toArray, List.set_cons_zero, List.set_cons_succ, i64_w, i32_w]
                          rfl
                        refine pure_ (i := 3) (N := some 30) (v := ?_) (a' := ?_) #[true, true, true, true, false, false, false, false, false, false, false, false, false, false, false, false, false, false, false, false, false, false, false, false, false, false, false] rfl rfl (any_of HT_.out (by kernel_rfl)) (fun _ _ _ h => h) (Or.inl ⟨by rfl, ?_⟩) ?_ ?_
                        rotate_left
                        · intro w'
                          go_simp
                          with_reducible rfl
                        rotate_left
                        · simp only [Act.put, List.setIfInBounds_toArray, List.set_cons_zero, List.set_cons_succ, i64_w, i32_w]
                          rfl
                        refine pure_ (i := 4) (N := some 31) (v := ?_) (a' := ?_) #[true, true, true, true, true, false, false, false, false, false, false, false, false, false, false, false, false, false, false, false, false, false, false, false, false, false, false] rfl rfl (any_of HT_.out (by kernel_rfl)) (fun _ _ _ h => h) (Or.inl ⟨by rfl, ?_⟩) ?_ ?_
                        rotate_left
                        · intro w'
                          go_simp
                          with_reducible rfl
                        rotate_left
                        · simp only [Act.put, List.setIfInBounds_toArray, List.set_cons_zero, List.set_cons_succ, i64_w, i32_w]
                          rfl
                        refine take_ (i := 5) (N := some 32) (v := ?_) (a' := ?_) #[true, true, true, true, true, true, false, false, false, false, false, false, false, false, false, false, false, false, false, false, false, false, false, false, false, false, false] rfl rfl (take_ofW HT_.out HW_.out (by kernel_rfl)) (fun _ _ _ h => h) (Or.inl ⟨by rfl, ?_⟩) hHeld ?_ ?_
                        rotate_left
                        · rintro w' ⟨s0, s1, s2, s3, s4, s5, s6, s7, s8, s9, s10, s11, s12, s13, s14, s15, s16, s17, s18, s19, s20, s21, s22, s23⟩
                          go_simp
                          with_reducible rfl
                        rotate_left
                        · simp only [Act.put, List.setIfInBounds_toArray, List.set_cons_zero, List.set_cons_succ, i64_w, i32_w]
                          rfl
                        refine pure_ (i := 6) (N := some 33) (v := ?_) (a' := ?_) #[true, true, true, true, true, true, true, false, false, false, false, false, false, false, false, false, false, false, false, false, false, false, false, false, false, false, false] rfl rfl (any_of HT_.out (by kernel_rfl)) (fun _ _ _ h => h) (Or.inl ⟨by rfl, ?_⟩) ?_ ?_
                        rotate_left
                        · intro w'
                          go_simp
                          with_reducible rfl
                        rotate_left
                        · simp only [Act.put, List.setIfInBounds_toArray, List.set_cons_zero, List.set_cons_succ, i64_w, i32_w]
                          rfl
                        refine pure_ (i := 7) (N := some 34) (v := ?_) (a' := ?_) #[true, true, true, true, true, true, true, true, false, false, false, false, false, false, false, false, false, false, false, false, false, false, false, false, false, false, false] rfl rfl (any_of HT_.out (by kernel_rfl)) (fun _ _ _ h => h) (Or.inl ⟨by rfl, ?_⟩) ?_ ?_
                        rotate_left
                        · intro w'
                          go_simp
                          with_reducible rfl
                        rotate_left
                        · simp only [Act.put, List.setIfInBounds_toArray, List.set_cons_zero, List.set_cons_succ, i64_w, i32_w]
                          rfl
                        refine pure_ (i := 9) (N := some 36) (v := ?_) (a' := ?_) #[true, true, true, true, true, true, true, true, false, true, false, false, false, false, false, false, false, false, false, false, false, false, false, false, false, false, false] rfl rfl (any_of HT_.out (by kernel_rfl)) (fun _ _ _ h => h) (Or.inl ⟨by rfl, ?_⟩) ?_ ?_
                        rotate_left
                        · intro w'
                          go_simp
                          with_reducible rfl
                        rotate_left
                        · simp only [Act.put, List.setIfInBounds_toArray, List.set_cons_zero, List.set_cons_succ, i64_w, i32_w]
                          rfl
                        refine take_ (i := 8) (N := some 35) (v := ?_) (a' := ?_) #[true, true, true, true, true, true, true, true, true, true, false, false, false, false, false, false, false, false, false, false, false, false, false, false, false, false, false] rfl rfl (take_ofW HT_.out HW_.out (by kernel_rfl)) (fun _ _ _ h => h) (Or.inl ⟨by rfl, ?_⟩) hHeld ?_ ?_
                        rotate_left
                        · rintro w' ⟨s0, s1, s2, s3, s4, s5, s6, s7, s8, s9, s10, s11, s12, s13, s14, s15, s16, s17, s18, s19, s20, s21, s22, s23⟩
                          go_simp
                          with_reducible rfl
                        rotate_left
                        · simp only [Act.put, List.setIfInBounds_toArray, List.set_cons_zero, List.set_cons_succ, i64_w, i32_w]
                          rfl
                        refine pure_ (i := 10) (N := some 37) (v := ?_) (a' := ?_) #[true, true, true, true, true, true, true, true, true, true, true, false, false, false, false, false, false, false, false, false, false, false, false, false, false, false, false] rfl rfl (any_of HT_.out (by kernel_rfl)) (fun _ _ _ h => h) (Or.inl ⟨by rfl, ?_⟩) ?_ ?_
                        rotate_left
                        · intro w'
                          go_simp
                          with_reducible rfl
                        rotate_left
                        · simp only [Act.put, List.setIfInBounds_toArray, List.set_cons_zero, List.set_cons_succ, i64_w, i32_w]
                          rfl
                        refine pure_ (i := 11) (N := some 38) (v := ?_) (a' := ?_) #[true, true, true, true, true, true, true, true, true, true, true, true, false, false, false, false, false, false, false, false, false, false, false, false, false, false, false] rfl rfl (any_of HT_.out (by kernel_rfl)) (fun _ _ _ h => h) (Or.inl ⟨by rfl, ?_⟩) ?_ ?_
                        rotate_left
                        · intro w'
                          go_simp
                          with_reducible rfl
                        rotate_left
                        · simp only [Act.put, List.setIfInBounds_toArray, List.set_cons_zero, List.set_cons_succ, i64_w, i32_w]
                          rfl
                        refine pure_ (i := 12) (N := some 39) (v := ?_) (a' := ?_) #[true, true, true, true, true, true, true, true, true, true, true, true, true, false, false, false, false, false, false, false, false, false, false, false, false, false, false] rfl rfl (any_of HT_.out (by kernel_rfl)) (fun _ _ _ h => h) (Or.inl ⟨by rfl, ?_⟩) ?_ ?_
                        rotate_left
                        · intro w'
                          go_simp
                          with_reducible rfl
                        rotate_left
                        · simp only [Act.put, List.setIfInBounds_toArray, List.set_cons_zero, List.set_cons_succ, i64_w, i32_w]
                          rfl
                        refine take_ (i := 13) (N := some 40) (v := ?_) (a' := ?_) #[true, true, true, true, true, true, true, true, true, true, true, true, true, true, false, false, false, false, false, false, false, false, false, false, false, false, false] rfl rfl (take_ofW HT_.out HW_.out (by kernel_rfl)) (fun _ _ _ h => h) (Or.inl ⟨by rfl, ?_⟩) hHeld ?_ ?_
                        rotate_left
                        · rintro w' ⟨s0, s1, s2, s3, s4, s5, s6, s7, s8, s9, s10, s11, s12, s13, s14, s15, s16, s17, s18, s19, s20, s21, s22, s23⟩
                          go_simp
                          with_reducible rfl
                        rotate_left
                        · simp only [Act.put, List.setIfInBounds_toArray, List.set_cons_zero, List.set_cons_succ, i64_w, i32_w]
                          rfl
                        refine pure_ (i := 14) (N := some 41) (v := ?_) (a' := ?_) #[true, true, true, true, true, true, true, true, true, true, true, true, true, true, true, false, false, false, false, false, false, false, false, false, false, false, false] rfl rfl (any_of HT_.out (by kernel_rfl)) (fun _ _ _ h => h) (Or.inl ⟨by rfl, ?_⟩) ?_ ?_
                        rotate_left
                        · intro w'
                          go_simp
                          with_reducible rfl
                        rotate_left
                        · simp only [Act.put, List.setIfInBounds_toArray, List.set_cons_zero, List.set_cons_succ, i64_w, i32_w]
                          rfl
                        refine pure_ (i := 15) (N := some 42) (v := ?_) (a' := ?_) #[true, true, true, true, true, true, true, true, true, true, true, true, true, true, true, true, false, false, false, false, false, false, false, false, false, false, false] rfl rfl (any_of HT_.out (by kernel_rfl)) (fun _ _ _ h => h) (Or.inl ⟨by rfl, ?_⟩) ?_ ?_
                        rotate_left
                        · intro w'
                          go_simp
                          with_reducible rfl
                        rotate_left
                        · simp only [Act.put, List.setIfInBounds_toArray, List.set_cons_zero, List.set_cons_succ, i64_w, i32_w]
                          rfl
                        refine pure_ (i := 16) (N := some 43) (v := ?_) (a' := ?_) #[true, true, true, true, true, true, true, true, true, true, true, true, true, true, true, true, true, false, false, false, false, false, false, false, false, false, false] rfl rfl (any_of HT_.out (by kernel_rfl)) (fun _ _ _ h => h) (Or.inl ⟨by rfl, ?_⟩) ?_ ?_
                        rotate_left
                        · intro w'
                          go_simp
                          with_reducible rfl
                        rotate_left
                        · simp only [Act.put, List.setIfInBounds_toArray, List.set_cons_zero, List.set_cons_succ, i64_w, i32_w]
                          rfl
                        refine pure_ (i := 17) (N := some 44) (v := ?_) (a' := ?_) #[true, true, true, true, true, true, true, true, true, true, true, true, true, true, true, true, true, true, false, false, false, false, false, false, false, false, false] rfl rfl (any_of HT_.out (by kernel_rfl)) (fun _ _ _ h => h) (Or.inl ⟨by rfl, ?_⟩) ?_ ?_
                        rotate_left
                        · intro w'
                          go_simp
                          with_reducible rfl
                        rotate_left
                        · simp only [Act.put, List.setIfInBounds_toArray, List.set_cons_zero, List.set_cons_succ, i64_w, i32_w]
                          rfl
                        refine pure_ (i := 20) (N := some 47) (v := ?_) (a' := ?_) #[true, true, true, true, true, true, true, true, true, true, true, true, true, true, true, true, true, true, false, false, true, false, false, false, false, false, false] rfl rfl (any_of HT_.out (by kernel_rfl)) (fun _ _ _ h => h) (Or.inl ⟨by rfl, ?_⟩) ?_ ?_
                        rotate_left
                        · intro w'
                          go_simp
                          with_reducible rfl
                        rotate_left
                        · simp only [Act.put, List.setIfInBounds_toArray, List.set_cons_zero, List.set_cons_succ, i64_w, i32_w]
                          rfl
                        refine take_ (i := 18) (N := some 45) (v := ?_) (a' := ?_) #[true, true, true, true, true, true, true, true, true, true, true, true, true, true, true, true, true, true, true, false, true, false, false, false, false, false, false] rfl rfl (take_ofW HT_.out HW_.out (by kernel_rfl)) (fun _ _ _ h => h) (Or.inl ⟨by rfl, ?_⟩) hHeld ?_ ?_
                        rotate_left
                        · rintro w' ⟨s0, s1, s2, s3, s4, s5, s6, s7, s8, s9, s10, s11, s12, s13, s14, s15, s16, s17, s18, s19, s20, s21, s22, s23⟩
                          go_simp
                          with_reducible rfl
                        rotate_left
                        · simp only [Act.put, List.setIfInBounds_toArray, List.set_cons_zero, List.set_cons_succ, i64_w, i32_w]
                          rfl
                        refine take_ (i := 19) (N := some 46) (v := ?_) (a' := ?_) #[true, true, true, true, true, true, true, true, true, true, true, true, true, true, true, true, true, true, true, true, true, false, false, false, false, false, false] rfl rfl (take_ofW HT_.out HW_.out (by kernel_rfl)) (fun _ _ _ h => h) (Or.inl ⟨by rfl, ?_⟩) hHeld ?_ ?_
                        rotate_left
                        · rintro w' ⟨s0, s1, s2, s3, s4, s5, s6, s7, s8, s9, s10, s11, s12, s13, s14, s15, s16, s17, s18, s19, s20, s21, s22, s23⟩
                          go_simp
                          with_reducible rfl
                        rotate_left
                        · simp only [Act.put, List.setIfInBounds_toArray, List.set_cons_zero, List.set_cons_succ, i64_w, i32_w]
                          rfl
                        refine one_ (i := 21) (N := some 48) #[true, true, true, true, true, true, true, true, true, true, true, true, true, true, true, true, true, true, true, true, true, true, false, false, false, false, false] rfl rfl (one_of HT_.out (by kernel_rfl)) (by decide) (fun K hK => ?_)
                        refine goes_ Try.func29 (by kernel_rfl) rfl #[.agg #[.int .i64 a0_0, .int .i64 a0_1, .slice (some ad336) l0_2.length c0_2, .int .i64 a0_3, .bool a0_4, .bool a0_5], .int .i64 x6_1] (by rfl) rfl rfl (by (try simp only [List.map_toArray, List.map_cons, List.map_nil]); first | done | rfl | (simp only [List.length_drop, List.length_take]; rfl)) ?_
                        with_reducible refine (shutterref10_Next.calls a0_0 a0_1 _ _ l0_2 a0_3 a0_4 a0_5 x6_1 t338 _ ?side1 ?side2 A19.out).mono ?_
                        (case side1 => repeat (first | exact (Kd.C_below HR0_2.out HB.out) | (with_reducible refine Kd.C_alloc ?_ _) | (with_reducible refine Kd.C_drewN ?_ _) | (with_reducible refine Kd.C_drew ?_)))
                        (case side2 => exact HC0_2.out)
                        rintro e w29 ⟨rfl, hb⟩
                        refine ⟨_, rfl, ?_⟩
                        have n0_ := Aside0.mk (blk_below (g := gb332) (o := .cells #[.int .i64 a0_0, .int .i64 a0_1, .slice (some ad336) l0_2.length c0_2, .int .i64 a0_3, .bool a0_4, .bool a0_5] 24 (0, 0)) (by (with_reducible repeat (first | refine blk_drewN ?_ _ | refine blk_drew ?_ | refine blk_alloc ?_ _)); exact BK332.out) hb)
                        have n1_ := Aside0.mk (below_step (by repeat (first | (with_reducible first | exact HB.out | apply below_alloc | apply pw_below_drewN | apply below_drew1 | refine below_set ?_ GE332.out) | exact HB.out)) hb)
                        clear BK332
                        clear HB
                        have BK332 := n0_
                        have HB := n1_
                        clear n0_ n1_
                        (try clear hb)
                        (try clear hb2)
                        (try clear hk)
                        (try clear hi)
                        refine hK.out _ _ ⟨(blk_cell BK332.out 0).trans rfl, (blk_cell BK332.out 1).trans rfl, (blk_cell BK332.out 2).trans rfl, (blk_cell BK332.out 3).trans rfl, (blk_cell BK332.out 4).trans rfl, (blk_cell BK332.out 5).trans rfl, ((HB.out.cell (World.block_lt_of_cell? w _ hw336_0)).trans hw336_0), ((HB.out.cell (World.block_lt_of_cell? w _ hw336_1)).trans hw336_1), ((HB.out.cell (World.block_lt_of_cell? w _ hw336_2)).trans hw336_2), ((HB.out.cell (World.block_lt_of_cell? w _ hw336_3)).trans hw336_3), ((HB.out.cell (World.block_lt_of_cell? w _ hw336_4)).trans hw336_4), ((HB.out.cell (World.block_lt_of_cell? w _ hw336_5)).trans hw336_5), ((HB.out.cell (World.block_lt_of_cell? w _ hw337_0)).trans hw337_0), ((HB.out.cell (World.block_lt_of_cell? w _ hw337_1)).trans hw337_1), ((HB.out.cell (World.block_lt_of_cell? w _ hw337_2)).trans hw337_2), ((HB.out.cell (World.block_lt_of_cell? w _ hw337_3)).trans hw337_3), ((HB.out.cell (World.block_lt_of_cell? w _ hw337_4)).trans hw337_4), ((HB.out.cell (World.block_lt_of_cell? w _ hw337_5)).trans hw337_5), ((HB.out.cell (World.block_lt_of_cell? w _ hw339_0)).trans hw339_0), ((HB.out.cell (World.block_lt_of_cell? w _ hw339_1)).trans hw339_1), ((HB.out.cell (World.block_lt_of_cell? w _ hw339_2)).trans hw339_2), ((HB.out.cell (World.block_lt_of_cell? w _ hw339_3)).trans hw339_3), ((HB.out.cell (World.block_lt_of_cell? w _ hw339_4)).trans hw339_4), ((HB.out.cell (World.block_lt_of_cell? w _ hw339_5)).trans hw339_5)⟩ (fun hHeld => ?_)
                        clear hK K
                        refine norm_ (a' := ?_) ?_ ?_
                        rotate_left
                        · show Act.put _ (some 48) _ = _
                          simp only [Act.put, List.setIfInBounds_toArray, List.set_cons_zero, List.set_cons_succ, i64_w, i32_w]
                          rfl
                        refine pure_ (i := 22) (N := some 49) (v := ?_) (a' := ?_) #[true, true, true, true, true, true, true, true, true, true, true, true, true, true, true, true, true, true, true, true, true, true, true, false, false, false, false] rfl rfl (any_of HT_.out (by kernel_rfl)) (fun _ _ _ h => h) (Or.inl ⟨by rfl, ?_⟩) ?_ ?_
                        rotate_left
                        · intro w'
                          go_simp
                          with_reducible rfl
                        rotate_left
                        · simp only [Act.put, List.setIfInBounds_toArray, List.set_cons_zero, List.set_cons_succ, i64_w, i32_w]
                          rfl
                        refine pure_ (i := 23) (N := some 50) (v := ?_) (a' := ?_) #[true, true, true, true, true, true, true, true, true, true, true, true, true, true, true, true, true, true, true, true, true, true, true, true, false, false, false] rfl rfl (any_of HT_.out (by kernel_rfl)) (fun _ _ _ h => h) (Or.inl ⟨by rfl, ?_⟩) ?_ ?_
                        rotate_left
                        · intro w'
                          go_simp
                          with_reducible rfl
                        rotate_left
                        · simp only [Act.put, List.setIfInBounds_toArray, List.set_cons_zero, List.set_cons_succ, i64_w, i32_w]
                          rfl
                        refine take_ (i := 24) (N := some 51) (v := ?_) (a' := ?_) #[true, true, true, true, true, true, true, true, true, true, true, true, true, true, true, true, true, true, true, true, true, true, true, true, true, false, false] rfl rfl (take_ofW HT_.out HW_.out (by kernel_rfl)) (fun _ _ _ h => h) (Or.inl ⟨by rfl, ?_⟩) hHeld ?_ ?_
                        rotate_left
                        · rintro w' ⟨s0, s1, s2, s3, s4, s5, s6, s7, s8, s9, s10, s11, s12, s13, s14, s15, s16, s17, s18, s19, s20, s21, s22, s23⟩
                          go_simp
                          with_reducible rfl
                        rotate_left
                        · simp only [Act.put, List.setIfInBounds_toArray, List.set_cons_zero, List.set_cons_succ, i64_w, i32_w]
                          rfl
                        refine pure_ (i := 25) (N := some 52) (v := ?_) (a' := ?_) #[true, true, true, true, true, true, true, true, true, true, true, true, true, true, true, true, true, true, true, true, true, true, true, true, true, true, false] rfl rfl (any_of HT_.out (by kernel_rfl)) (fun _ _ _ h => h) (Or.inl ⟨by rfl, ?_⟩) ?_ ?_
                        rotate_left
                        · intro w'
                          go_simp
                          with_reducible rfl
                        rotate_left
                        · simp only [Act.put, List.setIfInBounds_toArray, List.set_cons_zero, List.set_cons_succ, i64_w, i32_w]
                          rfl
                        refine pure_ (i := 26) (N := some 53) (v := ?_) (a' := ?_) #[true, true, true, true, true, true, true, true, true, true, true, true, true, true, true, true, true, true, true, true, true, true, true, true, true, true, true] rfl rfl (any_of HT_.out (by kernel_rfl)) (fun _ _ _ h => h) (Or.inl ⟨by rfl, ?_⟩) ?_ ?_
                        rotate_left
                        · intro w'
                          go_simp
                          with_reducible rfl
                        rotate_left
                        · simp only [Act.put, List.setIfInBounds_toArray, List.set_cons_zero, List.set_cons_succ, i64_w, i32_w]
                          rfl
                        refine done_ (done_of HT_.out (by kernel_rfl)) ?_
                        try go_wp2
                        go_roundg k1
                        case measure => have := HK1.out; omega
                        case rel => exact ⟨(wrap64 (x5_1 + 1)), (wrap64 (x6_1 + 1)), (by first | rfl | (simp; done) | (simp [*]; done)), (by first | rfl | (simp; done) | (simp [*]; done)), H', ⟨by have := HK1.out; omega⟩, ⟨by (with_reducible repeat (first | refine blk_drewN ?_ _ | refine blk_drew ?_ | refine blk_alloc ?_ _)); exact BK332.out⟩, ⟨by repeat (first | (with_reducible first | exact HB.out | apply below_alloc | apply pw_below_drewN | apply below_drew1 | refine below_set ?_ GE332.out) | exact HB.out)⟩⟩
                    · rw [if_neg c21] at H
                      exact absurd H (by simp)
                  · rw [if_neg c20] at H
                    exact absurd H (by simp)
              · replace c14 := Bool.eq_false_iff.mpr c14
                subst c14
                have H1 : (shutterlaw11_FieldRound.l0 k1 a1 x5_1 (wrap64 (x6_1 + 1)) a0_0 a0_1 l0_2 a0_3 a0_4 a0_5) = some r := by rw [if_neg (show ¬ (false = true) by decide)] at H; exact H
                clear H
                have H := H1
                clear H1
                have H' := Aside0.mk H
                clear H
                have hcz30_0 : wr.cell? ⟨gb332, 0, none⟩ = some (.int .i64 a0_0) := (blk_cell BK332.out 0).trans rfl
                have hcz30_1 : wr.cell? ⟨gb332, 1, none⟩ = some (.int .i64 a0_1) := (blk_cell BK332.out 1).trans rfl
                have hcz30_2 : wr.cell? ⟨gb332, 2, none⟩ = some (.slice A0_2 l0_2.length c0_2) := (blk_cell BK332.out 2).trans rfl
                have hcz30_3 : wr.cell? ⟨gb332, 3, none⟩ = some (.int .i64 a0_3) := (blk_cell BK332.out 3).trans rfl
                have hcz30_4 : wr.cell? ⟨gb332, 4, none⟩ = some (.bool a0_4) := (blk_cell BK332.out 4).trans rfl
                have hcz30_5 : wr.cell? ⟨gb332, 5, none⟩ = some (.bool a0_5) := (blk_cell BK332.out 5).trans rfl
                have hfz30_0 := blk_frozen BK332.out 0
                have hfz30_1 := blk_frozen BK332.out 1
                have hfz30_2 := blk_frozen BK332.out 2
                have hfz30_3 := blk_frozen BK332.out 3
                have hfz30_4 := blk_frozen BK332.out 4
                have hfz30_5 := blk_frozen BK332.out 5
                try go_wp2
                have n0_ := Aside0.mk (blk_drew BK332.out)
                have n1_ := Aside0.mk (below_drew1 HB.out)
                clear BK332
                clear HB
                have BK332 := n0_
                have HB := n1_
                clear n0_ n1_
                have p336 : 0 ≤ (x6_1 : Int) := of_decide_eq_true (by first | (with_reducible assumption) | assumption)
                have q336 : x6_1 < (l0_2.length : Int) := of_decide_eq_true (by first | (with_reducible assumption) | assumption)
                obtain ⟨ad336, e336, hx336_0, hx336_1, hx336_2, hx336_3, hx336_4, hx336_5⟩ := at_T39 HR0_2.out x6_1 p336 q336
                have hw336_5 := hx336_5
                (try rw [← Nbq13.out] at hw336_5)
                have hw336_4 := hx336_4
                (try rw [← Nbq13.out] at hw336_4)
                have hw336_3 := hx336_3
                (try rw [← Nbq13.out] at hw336_3)
                have hw336_2 := hx336_2
                (try rw [← Nbq13.out] at hw336_2)
                have hw336_1 := hx336_1
                (try rw [← Nbq13.out] at hw336_1)
                have hw336_0 := hx336_0
                (try rw [← Nbq13.out] at hw336_0)
                (try rw [← Nbq13.out] at hx336_0)
                (try rw [← Nbq13.out] at hx336_1)
                (try rw [← Nbq13.out] at hx336_2)
                (try rw [← Nbq13.out] at hx336_4)
                cases e336
                replace hx336_0 := (HB.out.cell (World.block_lt_of_cell? w _ hx336_0)).trans hx336_0
                replace hx336_1 := (HB.out.cell (World.block_lt_of_cell? w _ hx336_1)).trans hx336_1
                replace hx336_2 := (HB.out.cell (World.block_lt_of_cell? w _ hx336_2)).trans hx336_2
                replace hx336_3 := (HB.out.cell (World.block_lt_of_cell? w _ hx336_3)).trans hx336_3
                replace hx336_4 := (HB.out.cell (World.block_lt_of_cell? w _ hx336_4)).trans hx336_4
                replace hx336_5 := (HB.out.cell (World.block_lt_of_cell? w _ hx336_5)).trans hx336_5
                replace p336 := eq_true p336
                replace q336 := eq_true q336
                refine start_ (n := 27) (S := fun w' => w'.cell? ⟨gb332, 0, none⟩ = some (.int .i64 a0_0) ∧ w'.cell? ⟨gb332, 1, none⟩ = some (.int .i64 a0_1) ∧ w'.cell? ⟨gb332, 2, none⟩ = some (.slice (some ad336) l0_2.length c0_2) ∧ w'.cell? ⟨gb332, 3, none⟩ = some (.int .i64 a0_3) ∧ w'.cell? ⟨gb332, 4, none⟩ = some (.bool a0_4) ∧ w'.cell? ⟨gb332, 5, none⟩ = some (.bool a0_5) ∧ w'.cell? (ad336.add ((x6_1).toNat * 6)) = some (.bool false) ∧ w'.cell? ⟨(ad336.add ((x6_1).toNat * 6)).block, (ad336.add ((x6_1).toNat * 6)).off + 1, none⟩ = some (.bool ((rd_T39 l0_2 x6_1).f1.f0)) ∧ w'.cell? ⟨(ad336.add ((x6_1).toNat * 6)).block, (ad336.add ((x6_1).toNat * 6)).off + 2, none⟩ = some (.bool ((rd_T39 l0_2 x6_1).f1.f1)) ∧ w'.cell? ⟨(ad336.add ((x6_1).toNat * 6)).block, (ad336.add ((x6_1).toNat * 6)).off + 3, none⟩ = some (.int .i64 ((rd_T39 l0_2 x6_1).f1.f2)) ∧ w'.cell? ⟨(ad336.add ((x6_1).toNat * 6)).block, (ad336.add ((x6_1).toNat * 6)).off + 4, none⟩ = some (.bool ((rd_T39 l0_2 x6_1).f1.f3)) ∧ w'.cell? ⟨(ad336.add ((x6_1).toNat * 6)).block, (ad336.add ((x6_1).toNat * 6)).off + 5, none⟩ = some (.int .u8 ((rd_T39 l0_2 x6_1).f2))) (ds := []) #[false, false, false, false, false, false, false, false, false, false, false, false, false, false, false, false, false, false, false, false, false, false, false, false, false, false, false] (by kernel_rfl) rfl rfl ⟨(blk_cell BK332.out 0).trans rfl, (blk_cell BK332.out 1).trans rfl, (blk_cell BK332.out 2).trans rfl, (blk_cell BK332.out 3).trans rfl, (blk_cell BK332.out 4).trans rfl, (blk_cell BK332.out 5).trans rfl, ((HB.out.cell (World.block_lt_of_cell? w _ hw336_0)).trans hw336_0), ((HB.out.cell (World.block_lt_of_cell? w _ hw336_1)).trans hw336_1), ((HB.out.cell (World.block_lt_of_cell? w _ hw336_2)).trans hw336_2), ((HB.out.cell (World.block_lt_of_cell? w _ hw336_3)).trans hw336_3), ((HB.out.cell (World.block_lt_of_cell? w _ hw336_4)).trans hw336_4), ((HB.out.cell (World.block_lt_of_cell? w _ hw336_5)).trans hw336_5)⟩ (fun hHeld => ?_); refine with_tabW shutterlaw11_FieldRound.tab7 shutterlaw11_FieldRound.bits7 (fun HT_ HW_ => ?_)
                generalize wr.drew = w31 at BK332 HB hx336_0 hx336_1 hx336_2 hx336_3 hx336_4 hx336_5 hHeld ⊢
                refine pure_ (i := 0) (N := some 27) (v := ?_) (a' := ?_) #[true, false, false, false, false, false, false, false, false, false, false, false, false, false, false, false, false, false, false, false, false, false, false, false, false, false, false] rfl rfl (any_of HT_.out (by kernel_rfl)) (fun _ _ _ h => h) (Or.inl ⟨by rfl, ?_⟩) ?_ ?_
                rotate_left
                · intro w'
                  go_simp
                  with_reducible rfl
                rotate_left
                · simp only [Act.put, List.setIfInBounds_toArray, List.set_cons_zero, List.set_cons_succ, i64_w, i32_w]
                  rfl
                refine pure_ (i := 2) (N := some 29) (v := ?_) (a' := ?_) #[true, false, true, false, false, false, false, false, false, false, false, false, false, false, false, false, false, false, false, false, false, false, false, false, false, false, false] rfl rfl (any_of HT_.out (by kernel_rfl)) (fun _ _ _ h => h) (Or.inl ⟨by rfl, ?_⟩) ?_ ?_
                rotate_left
                · intro w'
                  go_simp
                  with_reducible rfl
                rotate_left
                · simp only [Act.put, List.setIfInBounds_toArray, List.set_cons_zero, List.set_cons_succ, i64_w, i32_w]
                  rfl
                refine take_ (i := 1) (N := some 28) (v := ?_) (a' := ?_) #[true, true, true, false, false, false, false, false, false, false, false, false, false, false, false, false, false, false, false, false, false, false, false, false, false, false, false] rfl rfl (take_ofW HT_.out HW_.out (by kernel_rfl)) (fun _ _ _ h => h) (Or.inl ⟨by rfl, ?_⟩) hHeld ?_ ?_
                rotate_left
                · rintro w' ⟨s0, s1, s2, s3, s4, s5, s6, s7, s8, s9, s10, s11⟩
                  go_simp
                  with_reducible rfl
                rotate_left
                · simp only [Act.put, List.setIfInBounds_toArray, List.set_cons_zero, List.set_cons_succ, i64_w, i32_w]
                  rfl
                refine pure_ (i := 3) (N := some 30) (v := ?_) (a' := ?_) #[true, true, true, true, false, false, false, false, false, false, false, false, false, false, false, false, false, false, false, false, false, false, false, false, false, false, false] rfl rfl (any_of HT_.out (by kernel_rfl)) (fun _ _ _ h => h) (Or.inl ⟨by rfl, ?_⟩) ?_ ?_
                rotate_left
                · intro w'
                  go_simp
                  with_reducible rfl
                rotate_left
                · simp only [Act.put, List.setIfInBounds_toArray, List.set_cons_zero, List.set_cons_succ, i64_w, i32_w]
                  rfl
                refine pure_ (i := 4) (N := some 31) (v := ?_) (a' := ?_) #[true, true, true, true, true, false, false, false, false, false, false, false, false, false, false, false, false, false, false, false, false, false, false, false, false, false, false] rfl rfl (any_of HT_.out (by kernel_rfl)) (fun _ _ _ h => h) (Or.inl ⟨by rfl, ?_⟩) ?_ ?_
                rotate_left
                · intro w'
                  go_simp
                  with_reducible rfl
                rotate_left
                · simp only [Act.put, List.setIfInBounds_toArray, List.set_cons_zero, List.set_cons_succ, i64_w, i32_w]
                  rfl
                refine take_ (i := 5) (N := some 32) (v := ?_) (a' := ?_) #[true, true, true, true, true, true, false, false, false, false, false, false, false, false, false, false, false, false, false, false, false, false, false, false, false, false, false] rfl rfl (take_ofW HT_.out HW_.out (by kernel_rfl)) (fun _ _ _ h => h) (Or.inl ⟨by rfl, ?_⟩) hHeld ?_ ?_
                rotate_left
                · rintro w' ⟨s0, s1, s2, s3, s4, s5, s6, s7, s8, s9, s10, s11⟩
                  go_simp
                  with_reducible rfl
                rotate_left
                · simp only [Act.put, List.setIfInBounds_toArray, List.set_cons_zero, List.set_cons_succ, i64_w, i32_w]
                  rfl
                refine pure_ (i := 6) (N := some 33) (v := ?_) (a' := ?_) #[true, true, true, true, true, true, true, false, false, false, false, false, false, false, false, false, false, false, false, false, false, false, false, false, false, false, false] rfl rfl (any_of HT_.out (by kernel_rfl)) (fun _ _ _ h => h) (Or.inl ⟨by rfl, ?_⟩) ?_ ?_
                rotate_left
                · intro w'
                  go_simp
                  with_reducible rfl
                rotate_left
                · simp only [Act.put, List.setIfInBounds_toArray, List.set_cons_zero, List.set_cons_succ, i64_w, i32_w]
                  rfl
                refine pure_ (i := 7) (N := some 34) (v := undef) (a' := ?_) #[true, true, true, true, true, true, true, true, false, false, false, false, false, false, false, false, false, false, false, false, false, false, false, false, false, false, false] rfl rfl (any_of HT_.out (by kernel_rfl)) (fun _ _ _ h => h) (Or.inr ⟨by rfl, rfl⟩) ?_ ?_
                rotate_left
                · simp only [Act.put, List.setIfInBounds_toArray, List.set_cons_zero, List.set_cons_succ, i64_w, i32_w]
                  rfl
                refine pure_ (i := 8) (N := some 35) (v := undef) (a' := ?_) #[true, true, true, true, true, true, true, true, true, false, false, false, false, false, false, false, false, false, false, false, false, false, false, false, false, false, false] rfl rfl (any_of HT_.out (by kernel_rfl)) (fun _ _ _ h => h) (Or.inr ⟨by rfl, rfl⟩) ?_ ?_
                rotate_left
                · simp only [Act.put, List.setIfInBounds_toArray, List.set_cons_zero, List.set_cons_succ, i64_w, i32_w]
                  rfl
                refine pure_ (i := 9) (N := some 36) (v := undef) (a' := ?_) #[true, true, true, true, true, true, true, true, true, true, false, false, false, false, false, false, false, false, false, false, false, false, false, false, false, false, false] rfl rfl (any_of HT_.out (by kernel_rfl)) (fun _ _ _ h => h) (Or.inr ⟨by rfl, rfl⟩) ?_ ?_
                rotate_left
                · simp only [Act.put, List.setIfInBounds_toArray, List.set_cons_zero, List.set_cons_succ, i64_w, i32_w]
                  rfl
                refine pure_ (i := 10) (N := some 37) (v := undef) (a' := ?_) #[true, true, true, true, true, true, true, true, true, true, true, false, false, false, false, false, false, false, false, false, false, false, false, false, false, false, false] rfl rfl (any_of HT_.out (by kernel_rfl)) (fun _ _ _ h => h) (Or.inr ⟨by rfl, rfl⟩) ?_ ?_
                rotate_left
                · simp only [Act.put, List.setIfInBounds_toArray, List.set_cons_zero, List.set_cons_succ, i64_w, i32_w]
                  rfl
                refine pure_ (i := 11) (N := some 38) (v := undef) (a' := ?_) #[true, true, true, true, true, true, true, true, true, true, true, true, false, false, false, false, false, false, false, false, false, false, false, false, false, false, false] rfl rfl (any_of HT_.out (by kernel_rfl)) (fun _ _ _ h => h) (Or.inr ⟨by rfl, rfl⟩) ?_ ?_
                rotate_left
                · simp only [Act.put, List.setIfInBounds_toArray, List.set_cons_zero, List.set_cons_succ, i64_w, i32_w]
                  rfl
                refine pure_ (i := 12) (N := some 39) (v := undef) (a' := ?_) #[true, true, true, true, true, true, true, true, true, true, true, true, true, false, false, false, false, false, false, false, false, false, false, false, false, false, false] rfl rfl (any_of HT_.out (by kernel_rfl)) (fun _ _ _ h => h) (Or.inr ⟨by rfl, rfl⟩) ?_ ?_
                rotate_left
                · simp only [Act.put, List.setIfInBounds_toArray, List.set_cons_zero, List.set_cons_succ, i64_w, i32_w]
                  rfl
                refine pure_ (i := 13) (N := some 40) (v := undef) (a' := ?_) #[true, true, true, true, true, true, true, true, true, true, true, true, true, true, false, false, false, false, false, false, false, false, false, false, false, false, false] rfl rfl (any_of HT_.out (by kernel_rfl)) (fun _ _ _ h => h) (Or.inr ⟨by rfl, rfl⟩) ?_ ?_
                rotate_left
                · simp only [Act.put, List.setIfInBounds_toArray, List.set_cons_zero, List.set_cons_succ, i64_w, i32_w]
                  rfl
                refine pure_ (i := 14) (N := some 41) (v := undef) (a' := ?_) #[true, true, true, true, true, true, true, true, true, true, true, true, true, true, true, false, false, false, false, false, false, false, false, false, false, false, false] rfl rfl (any_of HT_.out (by kernel_rfl)) (fun _ _ _ h => h) (Or.inr ⟨by rfl, rfl⟩) ?_ ?_
                rotate_left
                · simp only [Act.put, List.setIfInBounds_toArray, List.set_cons_zero, List.set_cons_succ, i64_w, i32_w]
                  rfl
                refine pure_ (i := 15) (N := some 42) (v := ?_) (a' := ?_) #[true, true, true, true, true, true, true, true, true, true, true, true, true, true, true, true, false, false, false, false, false, false, false, false, false, false, false] rfl rfl (any_of HT_.out (by kernel_rfl)) (fun _ _ _ h => h) (Or.inl ⟨by rfl, ?_⟩) ?_ ?_
                rotate_left
                · intro w'
                  go_simp
                  with_reducible rfl
                rotate_left
                · simp only [Act.put, List.setIfInBounds_toArray, List.set_cons_zero, List.set_cons_succ, i64_w, i32_w]
                  rfl
                refine pure_ (i := 16) (N := some 43) (v := ?_) (a' := ?_) #[true, true, true, true, true, true, true, true, true, true, true, true, true, true, true, true, true, false, false, false, false, false, false, false, false, false, false] rfl rfl (any_of HT_.out (by kernel_rfl)) (fun _ _ _ h => h) (Or.inl ⟨by rfl, ?_⟩) ?_ ?_
                rotate_left
                · intro w'
                  go_simp
                  with_reducible rfl
                rotate_left
                · simp only [Act.put, List.setIfInBounds_toArray, List.set_cons_zero, List.set_cons_succ, i64_w, i32_w]
                  rfl
                refine pure_ (i := 17) (N := some 44) (v := undef) (a' := ?_) #[true, true, true, true, true, true, true, true, true, true, true, true, true, true, true, true, true, true, false, false, false, false, false, false, false, false, false] rfl rfl (any_of HT_.out (by kernel_rfl)) (fun _ _ _ h => h) (Or.inr ⟨by rfl, rfl⟩) ?_ ?_
                rotate_left
                · simp only [Act.put, List.setIfInBounds_toArray, List.set_cons_zero, List.set_cons_succ, i64_w, i32_w]
                  rfl
                refine pure_ (i := 18) (N := some 45) (v := undef) (a' := ?_) #[true, true, true, true, true, true, true, true, true, true, true, true, true, true, true, true, true, true, true, false, false, false, false, false, false, false, false] rfl rfl (any_of HT_.out (by kernel_rfl)) (fun _ _ _ h => h) (Or.inr ⟨by rfl, rfl⟩) ?_ ?_
                rotate_left
                · simp only [Act.put, List.setIfInBounds_toArray, List.set_cons_zero, List.set_cons_succ, i64_w, i32_w]
                  rfl
                refine pure_ (i := 19) (N := some 46) (v := undef) (a' := ?_) #[true, true, true, true, true, true, true, true, true, true, true, true, true, true, true, true, true, true, true, true, false, false, false, false, false, false, false] rfl rfl (any_of HT_.out (by kernel_rfl)) (fun _ _ _ h => h) (Or.inr ⟨by rfl, rfl⟩) ?_ ?_
                rotate_left
                · simp only [Act.put, List.setIfInBounds_toArray, List.set_cons_zero, List.set_cons_succ, i64_w, i32_w]
                  rfl
                refine pure_ (i := 20) (N := some 47) (v := undef) (a' := ?_) #[true, true, true, true, true, true, true, true, true, true, true, true, true, true, true, true, true, true, true, true, true, false, false, false, false, false, false] rfl rfl (any_of HT_.out (by kernel_rfl)) (fun _ _ _ h => h) (Or.inr ⟨by rfl, rfl⟩) ?_ ?_
                rotate_left
                · simp only [Act.put, List.setIfInBounds_toArray, List.set_cons_zero, List.set_cons_succ, i64_w, i32_w]
                  rfl
                refine pure_ (i := 21) (N := some 48) (v := undef) (a' := ?_) #[true, true, true, true, true, true, true, true, true, true, true, true, true, true, true, true, true, true, true, true, true, true, false, false, false, false, false] rfl rfl (any_of HT_.out (by kernel_rfl)) (fun _ _ _ h => h) (Or.inr ⟨by rfl, rfl⟩) ?_ ?_
                rotate_left
                · simp only [Act.put, List.setIfInBounds_toArray, List.set_cons_zero, List.set_cons_succ, i64_w, i32_w]
                  rfl
                refine pure_ (i := 22) (N := some 49) (v := undef) (a' := ?_) #[true, true, true, true, true, true, true, true, true, true, true, true, true, true, true, true, true, true, true, true, true, true, true, false, false, false, false] rfl rfl (any_of HT_.out (by kernel_rfl)) (fun _ _ _ h => h) (Or.inr ⟨by rfl, rfl⟩) ?_ ?_
                rotate_left
                · simp only [Act.put, List.setIfInBounds_toArray, List.set_cons_zero, List.set_cons_succ, i64_w, i32_w]
                  rfl
                refine pure_ (i := 23) (N := some 50) (v := undef) (a' := ?_) #[true, true, true, true, true, true, true, true, true, true, true, true, true, true, true, true, true, true, true, true, true, true, true, true, false, false, false] rfl rfl (any_of HT_.out (by kernel_rfl)) (fun _ _ _ h => h) (Or.inr ⟨by rfl, rfl⟩) ?_ ?_
                rotate_left
                · simp only [Act.put, List.setIfInBounds_toArray, List.set_cons_zero, List.set_cons_succ, i64_w, i32_w]
                  rfl
                refine pure_ (i := 24) (N := some 51) (v := undef) (a' := ?_) #[true, true, true, true, true, true, true, true, true, true, true, true, true, true, true, true, true, true, true, true, true, true, true, true, true, false, false] rfl rfl (any_of HT_.out (by kernel_rfl)) (fun _ _ _ h => h) (Or.inr ⟨by rfl, rfl⟩) ?_ ?_
                rotate_left
                · simp only [Act.put, List.setIfInBounds_toArray, List.set_cons_zero, List.set_cons_succ, i64_w, i32_w]
                  rfl
                refine pure_ (i := 25) (N := some 52) (v := undef) (a' := ?_) #[true, true, true, true, true, true, true, true, true, true, true, true, true, true, true, true, true, true, true, true, true, true, true, true, true, true, false] rfl rfl (any_of HT_.out (by kernel_rfl)) (fun _ _ _ h => h) (Or.inr ⟨by rfl, rfl⟩) ?_ ?_
                rotate_left
                · simp only [Act.put, List.setIfInBounds_toArray, List.set_cons_zero, List.set_cons_succ, i64_w, i32_w]
                  rfl
                refine pure_ (i := 26) (N := some 53) (v := ?_) (a' := ?_) #[true, true, true, true, true, true, true, true, true, true, true, true, true, true, true, true, true, true, true, true, true, true, true, true, true, true, true] rfl rfl (any_of HT_.out (by kernel_rfl)) (fun _ _ _ h => h) (Or.inl ⟨by rfl, ?_⟩) ?_ ?_
                rotate_left
                · intro w'
                  go_simp
                  with_reducible rfl
                rotate_left
                · simp only [Act.put, List.setIfInBounds_toArray, List.set_cons_zero, List.set_cons_succ, i64_w, i32_w]
                  rfl
                refine done_ (done_of HT_.out (by kernel_rfl)) ?_
                try go_wp2
                go_roundg k1
                case measure => have := HK1.out; omega
                case rel => exact ⟨(x5_1), (wrap64 (x6_1 + 1)), (by first | rfl | (simp; done) | (simp [*]; done)), (by first | rfl | (simp; done) | (simp [*]; done)), H', ⟨by have := HK1.out; omega⟩, ⟨by (with_reducible repeat (first | refine blk_drewN ?_ _ | refine blk_drew ?_ | refine blk_alloc ?_ _)); exact BK332.out⟩, ⟨by repeat (first | (with_reducible first | exact HB.out | apply below_alloc | apply pw_below_drewN | apply below_drew1 | refine below_set ?_ GE332.out) | exact HB.out)⟩⟩
            · rw [if_neg c12] at H
              exact absurd H (by simp)
          · rw [if_neg c11] at H
            have c11b0 : decide (x6_1 < (l0_2.length : Int)) = false := decide_eq_false c11
            clear c11
            by_cases c32 : (l0_2.length : Int) = 0
            · rw [if_pos c32] at H
              exact absurd H (by simp)
            · rw [if_neg c32] at H
              have c32b0 : ((l0_2.length : Int) == 0) = false := beq_eq_false_iff_ne.mpr c32
              have c32b1 : ((l0_2.length : Int) != 0) = true := bne_iff_ne.mpr c32
              have c32b2 : ¬ (l0_2 = []) := fun h_ => c32 (by rw [h_]; rfl)
              by_cases c33 : x5_1 = 0
              · rw [if_pos c33] at H
                have c33b0 : (x5_1 == 0) = true := beq_iff_eq.mpr c33
                have c33b1 : (x5_1 != 0) = false := bne_eq_false_iff_eq.mpr c33
                clear c33
                replace H := Option.bind_eq_some_iff.mp H
                obtain ⟨t340, A340, H⟩ := H
                replace H : (if t340 = (-1) then ((field_Prev.f a0_0 a0_1 l0_2 a0_3 a0_4 a0_5 (Int.tmod (wrap64 (a1)) (l0_2.length : Int))).bind fun t341 => (some (t341 == (-1)))) else (none)) = some r := H
                have A34 := Aside0.mk A340
                clear A340
                by_cases c35 : t340 = (-1)
                · rw [if_pos c35] at H
                  have c35b0 : (t340 == (-1)) = true := beq_iff_eq.mpr c35
                  have c35b1 : (t340 != (-1)) = false := bne_eq_false_iff_eq.mpr c35
                  clear c35
                  replace H := Option.bind_eq_some_iff.mp H
                  obtain ⟨t341, A360, H⟩ := H
                  replace H : (some (t341 == (-1))) = some r := H
                  have A36 := Aside0.mk A360
                  clear A360
                  obtain rfl := Option.some.inj H
                  have hcz37_0 : wr.cell? ⟨gb332, 0, none⟩ = some (.int .i64 a0_0) := (blk_cell BK332.out 0).trans rfl
                  have hcz37_1 : wr.cell? ⟨gb332, 1, none⟩ = some (.int .i64 a0_1) := (blk_cell BK332.out 1).trans rfl
                  have hcz37_2 : wr.cell? ⟨gb332, 2, none⟩ = some (.slice A0_2 l0_2.length c0_2) := (blk_cell BK332.out 2).trans rfl
                  have hcz37_3 : wr.cell? ⟨gb332, 3, none⟩ = some (.int .i64 a0_3) := (blk_cell BK332.out 3).trans rfl
                  have hcz37_4 : wr.cell? ⟨gb332, 4, none⟩ = some (.bool a0_4) := (blk_cell BK332.out 4).trans rfl
                  have hcz37_5 : wr.cell? ⟨gb332, 5, none⟩ = some (.bool a0_5) := (blk_cell BK332.out 5).trans rfl
                  have hfz37_0 := blk_frozen BK332.out 0
                  have hfz37_1 := blk_frozen BK332.out 1
                  have hfz37_2 := blk_frozen BK332.out 2
                  have hfz37_3 := blk_frozen BK332.out 3
                  have hfz37_4 := blk_frozen BK332.out 4
                  have hfz37_5 := blk_frozen BK332.out 5
                  go_wp2_with (first | ((with_reducible refine gate_callee (f := 22) rfl ?_); refine goesL_ (some 66) rfl rfl Try.func22 (by kernel_rfl) rfl #[.agg #[.int .i64 a0_0, .int .i64 a0_1, .slice A0_2 l0_2.length c0_2, .int .i64 a0_3, .bool a0_4, .bool a0_5], .int .i64 (Int.tmod (wrap64 (a1)) (l0_2.length : Int))] rfl (by (try simp only [List.map_toArray, List.map_cons, List.map_nil]); first | done | rfl | (simp only [List.length_drop, List.length_take]; rfl)) ?_; (with_reducible refine (field_Next.calls a0_0 a0_1 _ _ l0_2 a0_3 a0_4 a0_5 (Int.tmod (wrap64 (a1)) (l0_2.length : Int)) t340 _ ?side1 ?side2 A34.out).mono ?_); (case side1 => repeat (first | exact (Kd.C_below HR0_2.out HB.out) | (with_reducible refine Kd.C_alloc ?_ _) | (with_reducible refine Kd.C_drewN ?_ _) | (with_reducible refine Kd.C_drew ?_))); (case side2 => exact HC0_2.out); rintro e w38 ⟨rfl, hb⟩; refine ⟨_, rfl, ?_⟩; have n0_ := Aside0.mk (blk_below (g := gb332) (o := .cells #[.int .i64 a0_0, .int .i64 a0_1, .slice A0_2 l0_2.length c0_2, .int .i64 a0_3, .bool a0_4, .bool a0_5] 24 (0, 0)) (by (with_reducible repeat (first | refine blk_drewN ?_ _ | refine blk_drew ?_ | refine blk_alloc ?_ _)); exact BK332.out) hb); have n1_ := Aside0.mk (below_step (by repeat (first | (with_reducible first | exact HB.out | apply below_alloc | apply pw_below_drewN | apply below_drew1 | refine below_set ?_ GE332.out) | exact HB.out)) hb); clear BK332; clear HB; have BK332 := n0_; have HB := n1_; clear n0_ n1_; (try clear hb); (try clear hb2); (try clear hk); (try clear hi); have hcz39_0 : w38.cell? ⟨gb332, 0, none⟩ = some (.int .i64 a0_0) := (blk_cell BK332.out 0).trans rfl; have hcz39_1 : w38.cell? ⟨gb332, 1, none⟩ = some (.int .i64 a0_1) := (blk_cell BK332.out 1).trans rfl; have hcz39_2 : w38.cell? ⟨gb332, 2, none⟩ = some (.slice A0_2 l0_2.length c0_2) := (blk_cell BK332.out 2).trans rfl; have hcz39_3 : w38.cell? ⟨gb332, 3, none⟩ = some (.int .i64 a0_3) := (blk_cell BK332.out 3).trans rfl; have hcz39_4 : w38.cell? ⟨gb332, 4, none⟩ = some (.bool a0_4) := (blk_cell BK332.out 4).trans rfl; have hcz39_5 : w38.cell? ⟨gb332, 5, none⟩ = some (.bool a0_5) := (blk_cell BK332.out 5).trans rfl; have hfz39_0 := blk_frozen BK332.out 0; have hfz39_1 := blk_frozen BK332.out 1; have hfz39_2 := blk_frozen BK332.out 2; have hfz39_3 := blk_frozen BK332.out 3; have hfz39_4 := blk_frozen BK332.out 4; have hfz39_5 := blk_frozen BK332.out 5) | (go_at_call 24; (with_reducible refine (field_Prev.calls a0_0 a0_1 _ _ l0_2 a0_3 a0_4 a0_5 (Int.tmod (wrap64 (a1)) (l0_2.length : Int)) t341 _ ?side1 ?side2 A36.out).mono ?_); (case side1 => repeat (first | exact (Kd.C_below HR0_2.out HB.out) | (with_reducible refine Kd.C_alloc ?_ _) | (with_reducible refine Kd.C_drewN ?_ _) | (with_reducible refine Kd.C_drew ?_))); (case side2 => exact HC0_2.out); rintro e w40 ⟨rfl, hb⟩; have n0_ := Aside0.mk (blk_below (g := gb332) (o := .cells #[.int .i64 a0_0, .int .i64 a0_1, .slice A0_2 l0_2.length c0_2, .int .i64 a0_3, .bool a0_4, .bool a0_5] 24 (0, 0)) (by (with_reducible repeat (first | refine blk_drewN ?_ _ | refine blk_drew ?_ | refine blk_alloc ?_ _)); exact BK332.out) hb); have n1_ := Aside0.mk (below_step (by repeat (first | (with_reducible first | exact HB.out | apply below_alloc | apply pw_below_drewN | apply below_drew1 | refine below_set ?_ GE332.out) | exact HB.out)) hb); clear BK332; clear HB; have BK332 := n0_; have HB := n1_; clear n0_ n1_; (try clear hb); (try clear hb2); (try clear hk); (try clear hi)))
                  go_ret
                  exact ⟨by first | rfl | (simp [errW_none, errW_some] <;> rfl) | (simp [*, errW_none, errW_some] <;> rfl), by repeat (first | (with_reducible first | exact HB.out | apply below_alloc | apply pw_below_drewN | apply below_drew1 | refine below_set ?_ GE332.out) | exact HB.out)⟩
                · rw [if_neg c35] at H
                  exact absurd H (by simp)
              · rw [if_neg c33] at H
                have c33b0 : (x5_1 == 0) = false := beq_eq_false_iff_ne.mpr c33
                have c33b1 : (x5_1 != 0) = true := bne_iff_ne.mpr c33
                by_cases c41 : 0 ≤ (l0_2.length : Int)
                · rw [if_pos c41] at H
                  have c41b0 := eq_true c41
                  have c41b1 : decide (0 ≤ (l0_2.length : Int)) = true := decide_eq_true c41
                  clear c41
                  by_cases c42 : ((l0_2.length : Int) : Int).toNat ≤ 281474976710656
                  · rw [if_pos c42] at H
                    have c42b0 := eq_true c42
                    have c42b1 : decide (((l0_2.length : Int) : Int).toNat ≤ 281474976710656) = true := decide_eq_true c42
                    clear c42
                    obtain ⟨y342, hy342⟩ : ∃ y_ : List Bool, y_ = (List.replicate ((l0_2.length : Int) : Int).toNat false) := ⟨_, rfl⟩
                    replace H : ((field_Next.f a0_0 a0_1 l0_2 a0_3 a0_4 a0_5 (Int.tmod (wrap64 (a1)) (l0_2.length : Int))).bind fun t345 => (shutterlaw11_FieldRound.l1 k1 x5_1 y342 t345 t345 0 a0_0 a0_1 l0_2 a0_3 a0_4 a0_5)) = some r := by first | (rw [hy342]; with_reducible exact H) | (have H2_ := (Option.bind_some _ _).symm.trans H; rw [hy342]; with_reducible exact H2_) | (have H2_ := (Option.bind_some _ _).symm.trans H; with_reducible exact H2_) | with_reducible exact H | (rw [hy342]; exact H) | exact H
                    have Ny342 := Aside0.mk hy342
                    clear hy342
                    replace H := Option.bind_eq_some_iff.mp H
                    obtain ⟨t345, A430, H⟩ := H
                    replace H : (shutterlaw11_FieldRound.l1 k1 x5_1 y342 t345 t345 0 a0_0 a0_1 l0_2 a0_3 a0_4 a0_5) = some r := H
                    have A43 := Aside0.mk A430
                    clear A430
                    have H' := Aside0.mk H
                    clear H
                    have hcz44_0 : wr.cell? ⟨gb332, 0, none⟩ = some (.int .i64 a0_0) := (blk_cell BK332.out 0).trans rfl
                    have hcz44_1 : wr.cell? ⟨gb332, 1, none⟩ = some (.int .i64 a0_1) := (blk_cell BK332.out 1).trans rfl
                    have hcz44_2 : wr.cell? ⟨gb332, 2, none⟩ = some (.slice A0_2 l0_2.length c0_2) := (blk_cell BK332.out 2).trans rfl
                    have hcz44_3 : wr.cell? ⟨gb332, 3, none⟩ = some (.int .i64 a0_3) := (blk_cell BK332.out 3).trans rfl
                    have hcz44_4 : wr.cell? ⟨gb332, 4, none⟩ = some (.bool a0_4) := (blk_cell BK332.out 4).trans rfl
                    have hcz44_5 : wr.cell? ⟨gb332, 5, none⟩ = some (.bool a0_5) := (blk_cell BK332.out 5).trans rfl
                    have hfz44_0 := blk_frozen BK332.out 0
                    have hfz44_1 := blk_frozen BK332.out 1
                    have hfz44_2 := blk_frozen BK332.out 2
                    have hfz44_3 := blk_frozen BK332.out 3
                    have hfz44_4 := blk_frozen BK332.out 4
                    have hfz44_5 := blk_frozen BK332.out 5
                    go_wp2_with (first | ((with_reducible refine gate_dst (N := 77) rfl ?_); refine Kd.R_make Kd.bool _ 4 rfl (N := 77) rfl 42 _ _ rfl (l0_2.length : Int) rfl rfl Try.underlying42 (.bool false) 1 info4 rfl (by decide) (by omega) false (ok := fun _ => True) (okp := fun _ => True) rfl (fun _ hk => hk) trivial (of_decide_eq_true (by first | (with_reducible assumption) | assumption)) (Nat.le_trans (Nat.mul_le_mul_right _ (of_decide_eq_true (by first | (with_reducible assumption) | assumption) : (l0_2.length : Int).toNat ≤ 281474976710656)) (by omega)) (Below.refl _ _) (Nat.le_refl _) ?_; intro v343 w45 ho46 hb hg_ hnew_; clear hg_ hnew_; (first | rw [← Ny342.out] at ho46 | (simp only [Int.reduceToNat] at ho46; rw [← Ny342.out] at ho46)); have n0_ := Aside0.mk (Kd.R_lower ho46 (below_size (by repeat (first | (with_reducible first | exact HB.out | apply below_alloc | apply pw_below_drewN | apply below_drew1 | refine below_set ?_ GE332.out) | exact HB.out)))); have n1_ := Aside0.mk (blk_below (g := gb332) (o := .cells #[.int .i64 a0_0, .int .i64 a0_1, .slice A0_2 l0_2.length c0_2, .int .i64 a0_3, .bool a0_4, .bool a0_5] 24 (0, 0)) (by (with_reducible repeat (first | refine blk_drewN ?_ _ | refine blk_drew ?_ | refine blk_alloc ?_ _)); exact BK332.out) hb); have n2_ := Aside0.mk (below_step (by repeat (first | (with_reducible first | exact HB.out | apply below_alloc | apply pw_below_drewN | apply below_drew1 | refine below_set ?_ GE332.out) | exact HB.out)) hb); clear BK332; clear HB; have HO344 := n0_; have BK332 := n1_; have HB := n2_; clear n0_ n1_ n2_; clear hb ho46; have hcz47_0 : w45.cell? ⟨gb332, 0, none⟩ = some (.int .i64 a0_0) := (blk_cell BK332.out 0).trans rfl; have hcz47_1 : w45.cell? ⟨gb332, 1, none⟩ = some (.int .i64 a0_1) := (blk_cell BK332.out 1).trans rfl; have hcz47_2 : w45.cell? ⟨gb332, 2, none⟩ = some (.slice A0_2 l0_2.length c0_2) := (blk_cell BK332.out 2).trans rfl; have hcz47_3 : w45.cell? ⟨gb332, 3, none⟩ = some (.int .i64 a0_3) := (blk_cell BK332.out 3).trans rfl; have hcz47_4 : w45.cell? ⟨gb332, 4, none⟩ = some (.bool a0_4) := (blk_cell BK332.out 4).trans rfl; have hcz47_5 : w45.cell? ⟨gb332, 5, none⟩ = some (.bool a0_5) := (blk_cell BK332.out 5).trans rfl; have hfz47_0 := blk_frozen BK332.out 0; have hfz47_1 := blk_frozen BK332.out 1; have hfz47_2 := blk_frozen BK332.out 2; have hfz47_3 := blk_frozen BK332.out 3; have hfz47_4 := blk_frozen BK332.out 4; have hfz47_5 := blk_frozen BK332.out 5) | ((with_reducible refine gate_callee (f := 22) rfl ?_); refine goesL_ (some 80) rfl rfl Try.func22 (by kernel_rfl) rfl #[.agg #[.int .i64 a0_0, .int .i64 a0_1, .slice A0_2 l0_2.length c0_2, .int .i64 a0_3, .bool a0_4, .bool a0_5], .int .i64 (Int.tmod (wrap64 (a1)) (l0_2.length : Int))] rfl (by (try simp only [List.map_toArray, List.map_cons, List.map_nil]); first | done | rfl | (simp only [List.length_drop, List.length_take]; rfl)) ?_; (with_reducible refine (field_Next.calls a0_0 a0_1 _ _ l0_2 a0_3 a0_4 a0_5 (Int.tmod (wrap64 (a1)) (l0_2.length : Int)) t345 _ ?side1 ?side2 A43.out).mono ?_); (case side1 => repeat (first | exact (Kd.C_below HR0_2.out HB.out) | (with_reducible refine Kd.C_alloc ?_ _) | (with_reducible refine Kd.C_drewN ?_ _) | (with_reducible refine Kd.C_drew ?_))); (case side2 => exact HC0_2.out); rintro e w48 ⟨rfl, hb⟩; refine ⟨_, rfl, ?_⟩; have n0_ := Aside0.mk (Kd.R_below (by (with_reducible repeat (first | apply Kd.R_alloc | apply Kd.R_drewN | apply Kd.R_drew)); exact HO344.out) hb); have n1_ := Aside0.mk (blk_below (g := gb332) (o := .cells #[.int .i64 a0_0, .int .i64 a0_1, .slice A0_2 l0_2.length c0_2, .int .i64 a0_3, .bool a0_4, .bool a0_5] 24 (0, 0)) (by (with_reducible repeat (first | refine blk_drewN ?_ _ | refine blk_drew ?_ | refine blk_alloc ?_ _)); exact BK332.out) hb); have n2_ := Aside0.mk (below_step (by repeat (first | (with_reducible first | exact HB.out | apply below_alloc | apply pw_below_drewN | apply below_drew1 | refine below_set ?_ GE332.out) | exact HB.out)) hb); clear HO344; clear BK332; clear HB; have HO344 := n0_; have BK332 := n1_; have HB := n2_; clear n0_ n1_ n2_; (try clear hb); (try clear hb2); (try clear hk); (try clear hi)))
                    go_loopg [9, 11] k1 (fun kq v9 v11 w' => ∃ (x8_2 : List Bool) (x9_2 : Int) (x11_2 : Int), v9 = .int .i64 x9_2 ∧ v11 = .int .i64 x11_2 ∧ Aside0 (shutterlaw11_FieldRound.l1 kq x5_1 x8_2 x9_2 t345 x11_2 a0_0 a0_1 l0_2 a0_3 a0_4 a0_5 = some r) ∧ Aside0 (kq ≤ k1) ∧ Aside0 (Kd.R Kd.bool 4 w' w.heap.size (fun _ => True) v343 x8_2) ∧ Aside0 (w'.heap[gb332]? = some (.cells #[.int .i64 a0_0, .int .i64 a0_1, (.slice A0_2 l0_2.length c0_2), .int .i64 a0_3, .bool a0_4, .bool a0_5] 24 (0, 0))) ∧ Aside0 (Below w.heap.size w w'))
                    case atStart => exact ⟨(y342), (t345), (0), (by first | rfl | (simp; done) | (simp [*]; done)), (by first | rfl | (simp; done) | (simp [*]; done)), H', ⟨Nat.le_refl _⟩, ⟨by (with_reducible repeat (first | apply Kd.R_alloc | apply Kd.R_drewN | apply Kd.R_drew)); exact HO344.out⟩, ⟨by (with_reducible repeat (first | refine blk_drewN ?_ _ | refine blk_drew ?_ | refine blk_alloc ?_ _)); exact BK332.out⟩, ⟨by repeat (first | (with_reducible first | exact HB.out | apply below_alloc | apply pw_below_drewN | apply below_drew1 | refine below_set ?_ GE332.out) | exact HB.out)⟩⟩
                    case round =>
                      clear H'
                      try clear c1
                      try clear q1
                      try clear c2
                      try clear p2
                      try clear q2
                      try clear c3
                      try clear p3
                      try clear q3
                      try clear hx3
                      try clear c4
                      try clear p6
                      try clear c11
                      try clear c11b0
                      try clear c12
                      try clear q13
                      try clear c14
                      try clear q15
                      try clear c20
                      try clear c21
                      try clear c22
                      try clear q22
                      try clear c29
                      try clear c32
                      try clear c32b0
                      try clear c32b1
                      try clear c32b2
                      try clear c33
                      try clear c33b0
                      try clear c33b1
                      try clear p33
                      try clear q33
                      try clear hx33
                      try clear c35
                      try clear c35b0
                      try clear c35b1
                      try clear c41
                      try clear c41b0
                      try clear c41b1
                      try clear c42
                      try clear c42b0
                      try clear c42b1
                      try clear hcz30_0
                      try clear hcz30_1
                      try clear hcz30_2
                      try clear hcz30_3
                      try clear hcz30_4
                      try clear hcz30_5
                      try clear hcz37_0
                      try clear hcz37_1
                      try clear hcz37_2
                      try clear hcz37_3
                      try clear hcz37_4
                      try clear hcz37_5
                      try clear hcz39_0
                      try clear hcz39_1
                      try clear hcz39_2
                      try clear hcz39_3
                      try clear hcz39_4
                      try clear hcz39_5
                      try clear hcz44_0
                      try clear hcz44_1
                      try clear hcz44_2
                      try clear hcz44_3
                      try clear hcz44_4
                      try clear hcz44_5
                      try clear hcz47_0
                      try clear hcz47_1
                      try clear hcz47_2
                      try clear hcz47_3
                      try clear hcz47_4
                      try clear hcz47_5
                      try clear hfz30_0
                      try clear hfz30_1
                      try clear hfz30_2
                      try clear hfz30_3
                      try clear hfz30_4
                      try clear hfz30_5
                      try clear hfz37_0
                      try clear hfz37_1
                      try clear hfz37_2
                      try clear hfz37_3
                      try clear hfz37_4
                      try clear hfz37_5
                      try clear hfz39_0
                      try clear hfz39_1
                      try clear hfz39_2
                      try clear hfz39_3
                      try clear hfz39_4
                      try clear hfz39_5
                      try clear hfz44_0
                      try clear hfz44_1
                      try clear hfz44_2
                      try clear hfz44_3
                      try clear hfz44_4
                      try clear hfz44_5
                      try clear hfz47_0
                      try clear hfz47_1
                      try clear hfz47_2
                      try clear hfz47_3
                      try clear hfz47_4
                      try clear hfz47_5
                      try clear hx336_0
                      try clear hx336_1
                      try clear hx336_2
                      try clear hx336_3
                      try clear hx336_4
                      try clear hx336_5
                      try clear hx337_0
                      try clear hx337_1
                      try clear hx337_2
                      try clear hx337_3
                      try clear hx337_4
                      try clear hx337_5
                      try clear hx339_0
                      try clear hx339_1
                      try clear hx339_2
                      try clear hx339_3
                      try clear hx339_4
                      try clear hx339_5
                      try clear p336
                      try clear p337
                      try clear p339
                      try clear q336
                      try clear q337
                      try clear q339
                      obtain ⟨x8_2, x9_2, x11_2, rfl, rfl, HA, HK2, HO_8, BK332, HB⟩ := hrel
                      cases gk with
                      | zero => exact absurd HA.out (by simp [shutterlaw11_FieldRound.l1])
                      | succ k2 =>
                        have H := HA.out
                        clear HA
                        simp only [shutterlaw11_FieldRound.l1] at H
                        by_cases c49 : x11_2 < x5_1
                        · rw [if_pos c49] at H
                          have c49b0 : decide (x11_2 < x5_1) = true := decide_eq_true c49
                          clear c49
                          by_cases c50 : x9_2 < 0
                          · rw [if_pos c50] at H
                            exact absurd H (by simp)
                          · rw [if_neg c50] at H
                            have c50b0 : decide (x9_2 < 0) = false := decide_eq_false c50
                            clear c50
                            by_cases c51 : 0 ≤ x9_2
                            · rw [if_pos c51] at H
                              have c51b0 : decide (0 ≤ x9_2) = true := decide_eq_true c51
                              clear c51
                              by_cases c52 : x9_2 < (x8_2.length : Int)
                              · rw [if_pos c52] at H
                                have c52b0 : decide (x9_2 < (x8_2.length : Int)) = true := decide_eq_true c52
                                clear c52
                                obtain ⟨bq53, hbq53⟩ : ∃ b_ : Bool, b_ = (rdOf false x8_2 x9_2) := ⟨_, rfl⟩
                                replace H : (if bq53 = true then (none) else ((field_Next.f a0_0 a0_1 l0_2 a0_3 a0_4 a0_5 x9_2).bind fun t348 => (shutterlaw11_FieldRound.l1 k2 x5_1 (x8_2.set (x9_2 : Int).toNat true) t348 t345 (wrap64 (x11_2 + 1)) a0_0 a0_1 l0_2 a0_3 a0_4 a0_5))) = some r := by rw [← hbq53] at H; exact H
                                have Nbq53 := Aside0.mk hbq53
                                clear hbq53
                                by_cases c54 : bq53 = true
                                · subst c54
                                  have H1 : (none) = some r := by rw [if_pos rfl] at H; exact H
                                  clear H
                                  have H := H1
                                  clear H1
                                  exact absurd H (by simp)
                                · replace c54 := Bool.eq_false_iff.mpr c54
                                  subst c54
                                  have H1 : ((field_Next.f a0_0 a0_1 l0_2 a0_3 a0_4 a0_5 x9_2).bind fun t348 => (shutterlaw11_FieldRound.l1 k2 x5_1 (x8_2.set (x9_2 : Int).toNat true) t348 t345 (wrap64 (x11_2 + 1)) a0_0 a0_1 l0_2 a0_3 a0_4 a0_5)) = some r := by rw [if_neg (show ¬ (false = true) by decide)] at H; exact H
                                  clear H
                                  have H := H1
                                  clear H1
                                  obtain ⟨y347, hy347⟩ : ∃ y_ : List Bool, y_ = (x8_2.set (x9_2 : Int).toNat true) := ⟨_, rfl⟩
                                  replace H : ((field_Next.f a0_0 a0_1 l0_2 a0_3 a0_4 a0_5 x9_2).bind fun t348 => (shutterlaw11_FieldRound.l1 k2 x5_1 y347 t348 t345 (wrap64 (x11_2 + 1)) a0_0 a0_1 l0_2 a0_3 a0_4 a0_5)) = some r := by first | (rw [hy347]; with_reducible exact H) | (have H2_ := (Option.bind_some _ _).symm.trans H; rw [hy347]; with_reducible exact H2_) | (have H2_ := (Option.bind_some _ _).symm.trans H; with_reducible exact H2_) | with_reducible exact H | (rw [hy347]; exact H) | exact H
                                  have Ny347 := Aside0.mk hy347
                                  clear hy347
                                  replace H := Option.bind_eq_some_iff.mp H
                                  obtain ⟨t348, A560, H⟩ := H
                                  replace H : (shutterlaw11_FieldRound.l1 k2 x5_1 y347 t348 t345 (wrap64 (x11_2 + 1)) a0_0 a0_1 l0_2 a0_3 a0_4 a0_5) = some r := H
                                  have A56 := Aside0.mk A560
                                  clear A560
                                  have H' := Aside0.mk H
                                  clear H
                                  obtain ⟨Ao57, co57, eo57⟩ := Kd.R_slice HO_8.out
                                  subst eo57
                                  have p346 : 0 ≤ (x9_2 : Int) := of_decide_eq_true (by first | (with_reducible assumption) | assumption)
                                  have q346 : x9_2 < (x8_2.length : Int) := of_decide_eq_true (by first | (with_reducible assumption) | assumption)
                                  obtain ⟨ad346, e346, hx346_0⟩ := Kd.at_bool (Kd.R_reads' HO_8.out).2.2 x9_2 p346 q346
                                  (try rw [← Nbq53.out] at hx346_0)
                                  cases e346
                                  replace p346 := eq_true p346
                                  replace q346 := eq_true q346
                                  have p55 : 0 ≤ (x9_2 : Int) := of_decide_eq_true (by first | (with_reducible assumption) | assumption)
                                  have q55 : (x9_2 : Int) < ((x8_2.length : Int) : Int) := of_decide_eq_true (by first | (with_reducible assumption) | assumption)
                                  obtain ⟨go55, co55, eo55, gb55, gl55, cl55, HG55⟩ := Kd.R_form HO_8.out (by omega)
                                  (first | cases eo55 | (injection eo55 with ea_ en_ ec_; (first | subst ea_ | (injection ea_ with ea_; subst ea_)); subst ec_; clear en_))
                                  have GB55 := Aside0.mk gb55
                                  have GG55 := Aside0.mk HG55
                                  clear gb55 gl55 HG55
                                  (first | simp only [add_plain] at hx346_0 | skip)
                                  obtain ⟨hx55_0, hf55_0⟩ := Kd.R_celln false HO_8.out (x9_2 : Int) p55 q55
                                  replace p55 := eq_true p55
                                  replace q55 := eq_true q55
                                  have HP58 := Kd.R_putg HO_8.out (x9_2 : Int) true
                                  go_wp2_with (first | ((with_reducible refine gate_store (t := 4) (p := 97) rfl ?_); refine store_event (t := 4) (p := 97) (v := ?vo_w59) (w1 := (wr.setCell ⟨go55, (x9_2 : Int).toNat, none⟩ (.bool true))) ?hg ?ho ?hn ?hr ?_; (case ho => rfl); (case hg => rfl); (case hn => rfl); (case hr => first | (go_simp; done) | (go_simp; rfl)); intro w59 hw; have hg : wr.grownBy w59 (some go55) := (by rw [hw]; exact HP58.2); have hp_ : Kd.R Kd.bool 4 w59 w.heap.size (fun _ => True) (.slice (some ⟨go55, 0, none⟩) x8_2.length co57) y347 := (by rw [hw, Ny347.out]; exact HP58.1); clear HP58; have n0_ := Aside0.mk (hp_); have n1_ := Aside0.mk (blk_grown (g := gb332) (o := .cells #[.int .i64 a0_0, .int .i64 a0_1, .slice A0_2 l0_2.length c0_2, .int .i64 a0_3, .bool a0_4, .bool a0_5] 24 (0, 0)) (by (with_reducible repeat (first | refine blk_drewN ?_ _ | refine blk_drew ?_ | refine blk_alloc ?_ _)); exact BK332.out) hg (Kd.R_ne HO_8.out BK332.out (by decide))); have n2_ := Aside0.mk ((by rw [hw]; exact below_set (HB.out) GB55.out : Below w.heap.size w w59)); clear HO_8; clear BK332; clear HB; have HO_8 := n0_; have BK332 := n1_; have HB := n2_; clear n0_ n1_ n2_; clear hg hw hp_; have hcz60_0 : w59.cell? ⟨gb332, 0, none⟩ = some (.int .i64 a0_0) := (blk_cell BK332.out 0).trans rfl; have hcz60_1 : w59.cell? ⟨gb332, 1, none⟩ = some (.int .i64 a0_1) := (blk_cell BK332.out 1).trans rfl; have hcz60_2 : w59.cell? ⟨gb332, 2, none⟩ = some (.slice A0_2 l0_2.length c0_2) := (blk_cell BK332.out 2).trans rfl; have hcz60_3 : w59.cell? ⟨gb332, 3, none⟩ = some (.int .i64 a0_3) := (blk_cell BK332.out 3).trans rfl; have hcz60_4 : w59.cell? ⟨gb332, 4, none⟩ = some (.bool a0_4) := (blk_cell BK332.out 4).trans rfl; have hcz60_5 : w59.cell? ⟨gb332, 5, none⟩ = some (.bool a0_5) := (blk_cell BK332.out 5).trans rfl; have hfz60_0 := blk_frozen BK332.out 0; have hfz60_1 := blk_frozen BK332.out 1; have hfz60_2 := blk_frozen BK332.out 2; have hfz60_3 := blk_frozen BK332.out 3; have hfz60_4 := blk_frozen BK332.out 4; have hfz60_5 := blk_frozen BK332.out 5) | ((with_reducible refine gate_callee (f := 22) rfl ?_); refine goesL_ (some 100) rfl rfl Try.func22 (by kernel_rfl) rfl #[.agg #[.int .i64 a0_0, .int .i64 a0_1, .slice A0_2 l0_2.length c0_2, .int .i64 a0_3, .bool a0_4, .bool a0_5], .int .i64 x9_2] rfl (by (try simp only [List.map_toArray, List.map_cons, List.map_nil]); first | done | rfl | (simp only [List.length_drop, List.length_take]; rfl)) ?_; (with_reducible refine (field_Next.calls a0_0 a0_1 _ _ l0_2 a0_3 a0_4 a0_5 x9_2 t348 _ ?side1 ?side2 A56.out).mono ?_); (case side1 => repeat (first | exact (Kd.C_below HR0_2.out HB.out) | (with_reducible refine Kd.C_alloc ?_ _) | (with_reducible refine Kd.C_drewN ?_ _) | (with_reducible refine Kd.C_drew ?_))); (case side2 => exact HC0_2.out); rintro e w61 ⟨rfl, hb⟩; refine ⟨_, rfl, ?_⟩; have n0_ := Aside0.mk (Kd.R_below (by (with_reducible repeat (first | apply Kd.R_alloc | apply Kd.R_drewN | apply Kd.R_drew)); exact HO_8.out) hb); have n1_ := Aside0.mk (blk_below (g := gb332) (o := .cells #[.int .i64 a0_0, .int .i64 a0_1, .slice A0_2 l0_2.length c0_2, .int .i64 a0_3, .bool a0_4, .bool a0_5] 24 (0, 0)) (by (with_reducible repeat (first | refine blk_drewN ?_ _ | refine blk_drew ?_ | refine blk_alloc ?_ _)); exact BK332.out) hb); have n2_ := Aside0.mk (below_step (by repeat (first | (with_reducible first | exact HB.out | apply below_alloc | apply pw_below_drewN | apply below_drew1 | refine below_set ?_ GE332.out) | exact HB.out)) hb); clear HO_8; clear BK332; clear HB; have HO_8 := n0_; have BK332 := n1_; have HB := n2_; clear n0_ n1_ n2_; (try clear hb); (try clear hb2); (try clear hk); (try clear hi)))
                                  go_roundg k2
                                  case measure => have := HK1.out; have := HK2.out; omega
                                  case rel => exact ⟨(y347), (t348), (wrap64 (x11_2 + 1)), (by first | rfl | (simp; done) | (simp [*]; done)), (by first | rfl | (simp; done) | (simp [*]; done)), H', ⟨by have := HK1.out; have := HK2.out; omega⟩, ⟨by (with_reducible repeat (first | apply Kd.R_alloc | apply Kd.R_drewN | apply Kd.R_drew)); exact HO_8.out⟩, ⟨by (with_reducible repeat (first | refine blk_drewN ?_ _ | refine blk_drew ?_ | refine blk_alloc ?_ _)); exact BK332.out⟩, ⟨by repeat (first | (with_reducible first | exact HB.out | apply below_alloc | apply pw_below_drewN | apply below_drew1 | refine below_set ?_ GE332.out) | exact HB.out)⟩⟩
                              · rw [if_neg c52] at H
                                exact absurd H (by simp)
                            · rw [if_neg c51] at H
                              exact absurd H (by simp)
                        · rw [if_neg c49] at H
                          have c49b0 : decide (x11_2 < x5_1) = false := decide_eq_false c49
                          clear c49
                          obtain rfl := Option.some.inj H
                          go_wp2
                          go_ret
                          exact ⟨by first | rfl | (simp [errW_none, errW_some] <;> rfl) | (simp [*, errW_none, errW_some] <;> rfl), by repeat (first | (with_reducible first | exact HB.out | apply below_alloc | apply pw_below_drewN | apply below_drew1 | refine below_set ?_ GE332.out) | exact HB.out)⟩
                  · rw [if_neg c42] at H
                    exact absurd H (by simp)
                · rw [if_neg c41] at H
                  exact absurd H (by simp)
    · replace c6 := Bool.eq_false_iff.mpr c6
      subst c6
      have H1 : ((shutterlaw11_awake.f k).bind fun t335 => (some t335)) = some r := by rw [if_neg (show ¬ (false = true) by decide)] at H; exact H
      clear H
      have H := H1
      clear H1
      replace H := Option.bind_eq_some_iff.mp H
      obtain ⟨t335, A620, H⟩ := H
      replace H : (some t335) = some r := H
      have A62 := Aside0.mk A620
      clear A620
      obtain rfl := Option.some.inj H
      go_enter Try.func8, Try.ntmps8
      go_wp2_with (first | ((with_reducible refine gate_dst (N := 2) rfl ?_); refine box_event ?hg (N := 2) ?hd (cs := #[.int .i64 a0_0, .int .i64 a0_1, .slice A0_2 l0_2.length c0_2, .int .i64 a0_3, .bool a0_4, .bool a0_5]) (t := 24) ?hr ?_; (case hd => rfl); (case hg => rfl); (case hr => first | (go_simp; done) | (go_simp; rfl)); intro gb332 hg w63 hbox hb; have n0_ := Aside0.mk (below_step (by repeat (first | (with_reducible first | exact HB.out | apply below_alloc | apply pw_below_drewN | apply below_drew1) | exact HB.out)) hb); have n1_ := Aside0.mk (hbox); have n2_ := Aside0.mk ((by rw [hg]; exact (below_size (by repeat (first | (with_reducible first | exact HB.out | apply below_alloc | apply pw_below_drewN | apply below_drew1) | exact HB.out))) : w.heap.size ≤ gb332)); have n3_ := Aside0.mk ((by rw [hg]; exact (below_size (by repeat (first | (with_reducible first | exact HB.out | apply below_alloc | apply pw_below_drewN | apply below_drew1) | exact HB.out))) : w.heap.size ≤ gb332)); clear HB; have HB := n0_; have BK332 := n1_; have GW332 := n2_; have GE332 := n3_; clear n0_ n1_ n2_ n3_; clear hb hbox hg) | ((with_reducible refine gate_callee (f := 9) rfl ?_); refine goesL_ (some 12) rfl rfl Try.func9 (by kernel_rfl) rfl #[] rfl (by (try simp only [List.map_toArray, List.map_cons, List.map_nil]); first | done | rfl | (simp only [List.length_drop, List.length_take]; rfl)) ?_; (with_reducible refine (shutterlaw11_awake.calls k  true _ A3.out).mono ?_); rintro e w64 ⟨rfl, hb⟩; refine ⟨_, rfl, ?_⟩; have n0_ := Aside0.mk (blk_below (g := gb332) (o := .cells #[.int .i64 a0_0, .int .i64 a0_1, .slice A0_2 l0_2.length c0_2, .int .i64 a0_3, .bool a0_4, .bool a0_5] 24 (0, 0)) (by (with_reducible repeat (first | refine blk_drewN ?_ _ | refine blk_drew ?_ | refine blk_alloc ?_ _)); exact BK332.out) hb); have n1_ := Aside0.mk (below_step (by repeat (first | (with_reducible first | exact HB.out | apply below_alloc | apply pw_below_drewN | apply below_drew1 | refine below_set ?_ GE332.out) | exact HB.out)) hb); clear BK332; clear HB; have BK332 := n0_; have HB := n1_; clear n0_ n1_; (try clear hb); (try clear hb2); (try clear hk); (try clear hi); have hcz65_0 : w64.cell? ⟨gb332, 0, none⟩ = some (.int .i64 a0_0) := (blk_cell BK332.out 0).trans rfl; have hcz65_1 : w64.cell? ⟨gb332, 1, none⟩ = some (.int .i64 a0_1) := (blk_cell BK332.out 1).trans rfl; have hcz65_2 : w64.cell? ⟨gb332, 2, none⟩ = some (.slice A0_2 l0_2.length c0_2) := (blk_cell BK332.out 2).trans rfl; have hcz65_3 : w64.cell? ⟨gb332, 3, none⟩ = some (.int .i64 a0_3) := (blk_cell BK332.out 3).trans rfl; have hcz65_4 : w64.cell? ⟨gb332, 4, none⟩ = some (.bool a0_4) := (blk_cell BK332.out 4).trans rfl; have hcz65_5 : w64.cell? ⟨gb332, 5, none⟩ = some (.bool a0_5) := (blk_cell BK332.out 5).trans rfl; have hfz65_0 := blk_frozen BK332.out 0; have hfz65_1 := blk_frozen BK332.out 1; have hfz65_2 := blk_frozen BK332.out 2; have hfz65_3 := blk_frozen BK332.out 3; have hfz65_4 := blk_frozen BK332.out 4; have hfz65_5 := blk_frozen BK332.out 5) | (go_at_call 10; (with_reducible refine (shutterref10_Few.calls k a0_0 a0_1 _ _ l0_2 a0_3 a0_4 a0_5 false _ ?side1 ?side2 A5.out).mono ?_); (case side1 => repeat (first | exact (Kd.C_below HR0_2.out HB.out) | (with_reducible refine Kd.C_alloc ?_ _) | (with_reducible refine Kd.C_drewN ?_ _) | (with_reducible refine Kd.C_drew ?_))); (case side2 => exact HC0_2.out); rintro e w66 ⟨rfl, hb⟩; have n0_ := Aside0.mk (blk_below (g := gb332) (o := .cells #[.int .i64 a0_0, .int .i64 a0_1, .slice A0_2 l0_2.length c0_2, .int .i64 a0_3, .bool a0_4, .bool a0_5] 24 (0, 0)) (by (with_reducible repeat (first | refine blk_drewN ?_ _ | refine blk_drew ?_ | refine blk_alloc ?_ _)); exact BK332.out) hb); have n1_ := Aside0.mk (below_step (by repeat (first | (with_reducible first | exact HB.out | apply below_alloc | apply pw_below_drewN | apply below_drew1 | refine below_set ?_ GE332.out) | exact HB.out)) hb); clear BK332; clear HB; have BK332 := n0_; have HB := n1_; clear n0_ n1_; (try clear hb); (try clear hb2); (try clear hk); (try clear hi)) | ((with_reducible refine gate_callee (f := 9) rfl ?_); refine goesL_ (some 19) rfl rfl Try.func9 (by kernel_rfl) rfl #[] rfl (by (try simp only [List.map_toArray, List.map_cons, List.map_nil]); first | done | rfl | (simp only [List.length_drop, List.length_take]; rfl)) ?_; (with_reducible refine (shutterlaw11_awake.calls k  t335 _ A62.out).mono ?_); rintro e w67 ⟨rfl, hb⟩; refine ⟨_, rfl, ?_⟩; have n0_ := Aside0.mk (blk_below (g := gb332) (o := .cells #[.int .i64 a0_0, .int .i64 a0_1, .slice A0_2 l0_2.length c0_2, .int .i64 a0_3, .bool a0_4, .bool a0_5] 24 (0, 0)) (by (with_reducible repeat (first | refine blk_drewN ?_ _ | refine blk_drew ?_ | refine blk_alloc ?_ _)); exact BK332.out) hb); have n1_ := Aside0.mk (below_step (by repeat (first | (with_reducible first | exact HB.out | apply below_alloc | apply pw_below_drewN | apply below_drew1 | refine below_set ?_ GE332.out) | exact HB.out)) hb); clear BK332; clear HB; have BK332 := n0_; have HB := n1_; clear n0_ n1_; (try clear hb); (try clear hb2); (try clear hk); (try clear hi)))
      go_ret
      exact ⟨by first | rfl | (simp [errW_none, errW_some] <;> rfl) | (simp [*, errW_none, errW_some] <;> rfl), by repeat (first | (with_reducible first | exact HB.out | apply below_alloc | apply pw_below_drewN | apply below_drew1 | refine below_set ?_ GE332.out) | exact HB.out)⟩
  · replace c4 := Bool.eq_false_iff.mpr c4
    subst c4
    have H1 : (none) = some r := by rw [if_neg (show ¬ (false = true) by decide)] at H; exact H
    clear H
    have H := H1
    clear H1
    exact absurd H (by simp)

end Go.Proofs.Ytapcfcagjlmgjaa.P
