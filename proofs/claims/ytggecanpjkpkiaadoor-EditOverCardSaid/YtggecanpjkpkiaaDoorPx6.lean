/- The functions of the seat's laws as plain Lean functions, and that Go's code comes to just their answers. Written by pp.py (wip/tools), a program of this session, on the kit's print. -/
import Derived.Test.YtggecanpjkpkiaaDoorPx0
import Derived.Test.YtggecanpjkpkiaaDoorPx3
namespace Go.Proofs.YtggecanpjkpkiaaDoor.P
open Go.RowKit Go.Proofs.YtggecanpjkpkiaaDoorW.PrintWords Go.Proofs.YtggecanpjkpkiaaDoorW.PrintLast Go.Proofs.YtggecanpjkpkiaaDoorW.PrintMore
attribute [local go_sem] max2_int min2_int max_two min_two max_three min_three max_four min_four   -- for this text's walks alone
attribute [local go_sem] Instr.field asAgg
set_option linter.unusedVariables false
set_option linter.unusedSimpArgs false

/-! ### edit_pushed: function 55 -/
def edit_pushed.l0 : Nat → List Int → Int → Int → Int → List (S35) → Int → Bool → Bool → Option (Bool × (List (S35)))
 | 0, _, _, _, _, _, _, _, _ => none
 | k + 1, x1, x6, x154000, x154001, x154002, x154003, x154004, x154005 => if x6 > 0 then (if 0 ≤ x6 then (if x6 < (x1.length : Int) then (if 0 ≤ (wrap64 (x6 - 1)) then (if (wrap64 (x6 - 1)) < (x1.length : Int) then (if 0 ≤ (rd x1 (wrap64 (x6 - 1))) then (if (rd x1 (wrap64 (x6 - 1))) < (x154002.length : Int) then (if 0 ≤ (rd x1 x6) then (if (rd x1 x6) < (x154002.length : Int) then (edit_pushed.l0 k x1 (wrap64 (x6 - 1)) x154000 x154001 (x154002.set ((rd x1 x6) : Int).toNat (⟨(rd_T35 x154002 (rd x1 (wrap64 (x6 - 1)))).f0, (⟨(rd_T35 x154002 (rd x1 (wrap64 (x6 - 1)))).f1.f0, (rd_T35 x154002 (rd x1 (wrap64 (x6 - 1)))).f1.f1, (rd_T35 x154002 (rd x1 (wrap64 (x6 - 1)))).f1.f2, (rd_T35 x154002 (rd x1 (wrap64 (x6 - 1)))).f1.f3⟩ : S33), (rd_T35 x154002 (rd x1 (wrap64 (x6 - 1)))).f2⟩ : S35)) x154003 x154004 x154005) else (none)) else (none)) else (none)) else (none)) else (none)) else (none)) else (none)) else (none)) else (some (true, x154002))
def edit_pushed.f (k : Nat) (a0_0 : Int) (a0_1 : Int) (l0_2 : List (S35)) (a0_3 : Int) (a0_4 : Bool) (a0_5 : Bool) (l1 : List Int) : Option (Bool × (List (S35))) := (pushed_index.f l1 a0_0 a0_1 l0_2 a0_3 a0_4 a0_5).bind fun t154 => (if t154 < 0 then (some (false, l0_2)) else (edit_pushed.l0 k l1 t154 a0_0 a0_1 l0_2 a0_3 a0_4 a0_5))
theorem edit_pushed.mono_l : ∀ k, (∀ y0 y1 y2 y3 y4 y5 y6 y7, LeO (edit_pushed.l0 k y0 y1 y2 y3 y4 y5 y6 y7) (edit_pushed.l0 (k + 1) y0 y1 y2 y3 y4 y5 y6 y7))
 | 0 => fun _ _ _ _ _ _ _ _ r h => by simp [edit_pushed.l0] at h
 | k + 1 => by
  have ih0 := edit_pushed.mono_l k
  ·intro y0 y1 y2 y3 y4 y5 y6 y7
   unfold edit_pushed.l0
   repeat' first
   | (with_reducible exact ih0 _ _ _ _ _ _ _ _)
   | (with_reducible exact LeO.refl _)
   | (with_reducible exact LeO.none _)
   | (with_reducible refine LeO.ite ?_ ?_)
   | (with_reducible refine LeO.bind ?_ (fun _ => ?_))
   | exact ih0 _ _ _ _ _ _ _ _
   | exact LeO.none _
   | refine LeO.ite ?_ ?_
   | refine LeO.bind ?_ (fun _ => ?_)
theorem edit_pushed.mono : ∀ a0 a1 a2 a3 a4 a5 a6 k, LeO (edit_pushed.f k a0 a1 a2 a3 a4 a5 a6) (edit_pushed.f (k + 1) a0 a1 a2 a3 a4 a5 a6) := by
 intro a0 a1 a2 a3 a4 a5 a6 k
 have ih0 := edit_pushed.mono_l k
 unfold edit_pushed.f
 repeat' first
   | (with_reducible exact ih0 _ _ _ _ _ _ _ _)
   | (with_reducible exact LeO.refl _)
   | (with_reducible exact LeO.none _)
   | (with_reducible refine LeO.ite ?_ ?_)
   | (with_reducible refine LeO.bind ?_ (fun _ => ?_))
   | exact ih0 _ _ _ _ _ _ _ _
   | exact LeO.none _
   | refine LeO.ite ?_ ?_
   | refine LeO.bind ?_ (fun _ => ?_)
def edit_pushed.T7 : Bool × List (List Nat × List Nat) := (true, [([], []), ([0], [0]), ([], []), ([], []), ([2, 3], [2, 3]), ([4], [4]), ([], []), ([6], [6]), ([], []), ([], []), ([9], [9]), ([8, 10], [8, 10]), ([11], [11]), ([7, 12], [7, 12]), ([13], [13]), ([1, 5, 0, 1, 2, 3, 4, 5, 6, 7, 8, 9, 10, 11, 12, 13, 14], [1, 5]), ([15, 14, 0, 1, 2, 3, 4, 5, 6, 7, 8, 9, 10, 11, 12, 13, 14], [14, 15])])
def edit_pushed.B7 : List Nat := [0, 1, 0, 0, 12, 28, 0, 64, 0, 0, 512, 1792, 3840, 8128, 16320, 32767, 65535]
theorem edit_pushed.tab7 : rtab .any (opsOf Tryd.f55 7) = edit_pushed.T7 := by kernel_rfl
theorem edit_pushed.bits7 : waitsOk edit_pushed.T7.2 edit_pushed.B7 = true := by kernel_rfl
set_option maxHeartbeats 8000000 in
set_option maxRecDepth 100000 in
theorem edit_pushed.calls (k : Nat) (a0_0 : Int) (a0_1 : Int) (P0_2_ : Nat → Prop) (u9000_ : Value) (l0_2 : List (S35)) (a0_3 : Int) (a0_4 : Bool) (a0_5 : Bool) (A1 : Option Addr) (c1 : Nat) (l1 : List Int) (r1 : Bool) (r2 : List (S35)) (w0 w : World) (hB : Below w0.heap.size w0 w) (ho0_2 : Kd.R k35 35 w w0.heap.size P0_2_ u9000_ l0_2) (hr1 : ∀ W_, Kept w W_ (fun k_ => P0_2_ k_) → Kd.C (Kd.int .i64) W_ A1 l1.length l1) (hc1 : l1.length ≤ c1) (h : edit_pushed.f k a0_0 a0_1 l0_2 a0_3 a0_4 a0_5 l1 = some (r1, r2)) :
  Calls Tryd.prog 55 #[.agg #[.int .i64 a0_0, .int .i64 a0_1, u9000_, .int .i64 a0_3, .bool a0_4, .bool a0_5], .slice A1 l1.length c1] w fun e w' => e = .returned (.bool r1) ∧ Kd.R k35 35 w' w0.heap.size (fun k_ => (P0_2_ k_ ∨ w.heap.size ≤ k_)) u9000_ r2 ∧ Below w0.heap.size w0 w' ∧ Kept w w' (fun k_ => P0_2_ k_) := by
 have hu24 := Tryd.underlying24
 have hu35 := Tryd.underlying35
 have HO0_2 := Aside0.mk (show Kd.R k35 35 w w0.heap.size (fun k_ => (P0_2_ k_ ∨ w.heap.size ≤ k_)) u9000_ l0_2 from Kd.R_mono ho0_2 (fun k_ hk => (.inl hk)))
 have HR1 := Aside0.mk hr1
 have HC1 := Aside0.mk hc1
 clear hr1 hc1
 have HK := Aside0.mk (Kept.refl w (fun k_ => P0_2_ k_))
 have HW0 := Aside0.mk hB.size
 have HB := Aside0.mk hB
 clear hB
 have H : ((pushed_index.f l1 a0_0 a0_1 l0_2 a0_3 a0_4 a0_5).bind fun t154 => (if t154 < 0 then (some (false, l0_2)) else (edit_pushed.l0 k l1 t154 a0_0 a0_1 l0_2 a0_3 a0_4 a0_5))) = some (r1, r2) := h
 clear h
 replace H := Option.bind_eq_some_iff.mp H
 obtain ⟨t154, A30, H⟩ := H
 replace H : (if t154 < 0 then (some (false, l0_2)) else (edit_pushed.l0 k l1 t154 a0_0 a0_1 l0_2 a0_3 a0_4 a0_5)) = some (r1, r2) := H
 have A3 := Aside0.mk A30
 clear A30
 by_cases c4 : t154 < 0
 ·rw [if_pos c4] at H
  have c4b0 : decide (t154 < 0) = true := decide_eq_true c4
  clear c4
  simp only [Option.some.injEq, Prod.mk.injEq] at H
  obtain ⟨rfl, rfl⟩ := H
  obtain ⟨Ao5, co5, eo5⟩ := Kd.R_slice HO0_2.out
  subst eo5
  go_enter Tryd.func55, Tryd.ntmps55
  go_wp2_with (first | ((with_reducible refine gate_dst (N := 2) rfl ?_); refine box_event ?hg (N := 2) ?hd (cs := #[.int .i64 a0_0, .int .i64 a0_1, .slice Ao5 l0_2.length co5, .int .i64 a0_3, .bool a0_4, .bool a0_5]) (t := 24) ?hr ?_; (case hd => rfl); (case hg => rfl); (case hr => first | (go_simp; done) | (go_simp; rfl)); intro gb153 hg w6 hbox hb; have n0_ := Aside0.mk (Kd.R_below (by (with_reducible repeat apply pR); exact HO0_2.out) hb); have n1_ := Aside0.mk (Kept.below (S := (fun k_ => P0_2_ k_)) (by repeat (first | (with_reducible first | exact HK.out | apply Kept.alloc | apply Kept.drewN | apply Kept.drew) | exact HK.out)) hb); have n2_ := Aside0.mk (below_step bl_ hb); have n3_ := Aside0.mk (hbox); have n4_ := Aside0.mk ((by rw [hg]; exact (by first | exact HK.out.1 | exact (show Kept w _ (fun k_ => P0_2_ k_) from by repeat (first | (with_reducible first | exact HK.out | apply Kept.alloc | apply Kept.drewN | apply Kept.drew) | exact HK.out)).1) : w.heap.size ≤ gb153)); have n5_ := Aside0.mk ((le_new hg (below_size bl_) : w0.heap.size ≤ gb153)); clear HO0_2; clear HK; clear HB; have HO0_2 := n0_; have HK := n1_; have HB := n2_; have BK153 := n3_; have GW153 := n4_; have GE153 := n5_; clear n0_ n1_ n2_ n3_ n4_ n5_; clear hb hbox hg) | ((with_reducible refine gate_callee (f := 78) rfl ?_); refine goesL_ (some 9) rfl rfl Tryd.func78 (by kernel_rfl) rfl #[.slice A1 l1.length c1, .func (.func 79) #[] #[.pointer (some ⟨gb153, 0, none⟩)]] rfl ag_ ?_; (with_reducible refine (pushed_index.calls _ _ l1 a0_0 a0_1 Ao5 co5 l0_2 a0_3 a0_4 a0_5 gb153 t154 _ ?side1 ?side2 ?side3 ?side4 ?side5 A3.out).mono ?_); (case side1 => exact Kd.C_kept_now HR1.out (by repeat (first | (with_reducible first | exact HK.out | apply Kept.alloc | apply Kept.drewN | apply Kept.drew | refine Kept.setCell ?_ (.inr GW153.out) _) | exact HK.out))); (case side2 => exact HC1.out); (case side3 => repeat (first | exact (Kd.R_reads' HO0_2.out).2.2 | (with_reducible apply pC))); (case side4 => exact (Kd.R_reads' HO0_2.out).2.1); (case side5 => exact (by (with_reducible repeat apply pK); exact BK153.out)); rintro e w' ⟨rfl, ⟨nd, rfl⟩⟩; refine ⟨_, rfl, ?_⟩))
  go_ret
  exact ⟨by first | rfl | (simp [errW_none, errW_some] <;> rfl) | (simp [*, errW_none, errW_some] <;> rfl), by (with_reducible repeat apply pR); exact HO0_2.out, bl_, by repeat (first | (with_reducible first | exact HK.out | apply Kept.alloc | apply Kept.drewN | apply Kept.drew | refine Kept.setCell ?_ (.inr GW153.out) _) | exact HK.out)⟩
 ·rw [if_neg c4] at H
  have c4b0 : decide (t154 < 0) = false := decide_eq_false c4
  clear c4
  have H' := Aside0.mk H
  clear H
  obtain ⟨Ao7, co7, eo7⟩ := Kd.R_slice HO0_2.out
  subst eo7
  go_enter Tryd.func55, Tryd.ntmps55
  go_wp2_with (first | ((with_reducible refine gate_dst (N := 2) rfl ?_); refine box_event ?hg (N := 2) ?hd (cs := #[.int .i64 a0_0, .int .i64 a0_1, .slice Ao7 l0_2.length co7, .int .i64 a0_3, .bool a0_4, .bool a0_5]) (t := 24) ?hr ?_; (case hd => rfl); (case hg => rfl); (case hr => first | (go_simp; done) | (go_simp; rfl)); intro gb153 hg w8 hbox hb; have n0_ := Aside0.mk (Kd.R_below (by (with_reducible repeat apply pR); exact HO0_2.out) hb); have n1_ := Aside0.mk (Kept.below (S := (fun k_ => P0_2_ k_)) (by repeat (first | (with_reducible first | exact HK.out | apply Kept.alloc | apply Kept.drewN | apply Kept.drew) | exact HK.out)) hb); have n2_ := Aside0.mk (below_step bl_ hb); have n3_ := Aside0.mk (hbox); have n4_ := Aside0.mk ((by rw [hg]; exact (by first | exact HK.out.1 | exact (show Kept w _ (fun k_ => P0_2_ k_) from by repeat (first | (with_reducible first | exact HK.out | apply Kept.alloc | apply Kept.drewN | apply Kept.drew) | exact HK.out)).1) : w.heap.size ≤ gb153)); have n5_ := Aside0.mk ((le_new hg (below_size bl_) : w0.heap.size ≤ gb153)); clear HO0_2; clear HK; clear HB; have HO0_2 := n0_; have HK := n1_; have HB := n2_; have BK153 := n3_; have GW153 := n4_; have GE153 := n5_; clear n0_ n1_ n2_ n3_ n4_ n5_; clear hb hbox hg) | ((with_reducible refine gate_callee (f := 78) rfl ?_); refine goesL_ (some 9) rfl rfl Tryd.func78 (by kernel_rfl) rfl #[.slice A1 l1.length c1, .func (.func 79) #[] #[.pointer (some ⟨gb153, 0, none⟩)]] rfl ag_ ?_; (with_reducible refine (pushed_index.calls _ _ l1 a0_0 a0_1 Ao7 co7 l0_2 a0_3 a0_4 a0_5 gb153 t154 _ ?side1 ?side2 ?side3 ?side4 ?side5 A3.out).mono ?_); (case side1 => exact Kd.C_kept_now HR1.out (by repeat (first | (with_reducible first | exact HK.out | apply Kept.alloc | apply Kept.drewN | apply Kept.drew | refine Kept.setCell ?_ (.inr GW153.out) _) | exact HK.out))); (case side2 => exact HC1.out); (case side3 => repeat (first | exact (Kd.R_reads' HO0_2.out).2.2 | (with_reducible apply pC))); (case side4 => exact (Kd.R_reads' HO0_2.out).2.1); (case side5 => exact (by (with_reducible repeat apply pK); exact BK153.out)); rintro e w' ⟨rfl, ⟨nd, rfl⟩⟩; refine ⟨_, rfl, ?_⟩))
  go_loopg [6] k (fun kq v6 w' => ∃ (x6_1 : Int) (x154002_1 : List (S35)), v6 = .int .i64 x6_1 ∧ Aside0 (edit_pushed.l0 kq l1 x6_1 a0_0 a0_1 x154002_1 a0_3 a0_4 a0_5 = some (r1, r2)) ∧ Aside0 (kq ≤ k) ∧ Aside0 (Kd.R k35 35 w' w0.heap.size (fun k_ => (P0_2_ k_ ∨ w.heap.size ≤ k_)) (.slice Ao7 l0_2.length co7) x154002_1) ∧ Aside0 (w'.heap[gb153]? = some (.cells #[.int .i64 a0_0, .int .i64 a0_1, (.slice Ao7 l0_2.length co7), .int .i64 a0_3, .bool a0_4, .bool a0_5] 24 (0, 0))) ∧ Aside0 (Kept w w' (fun k_ => P0_2_ k_)) ∧ Aside0 (Below w0.heap.size w0 w'))
  case atStart => exact ⟨(t154), (l0_2), (by first | rfl | (simp; done) | (simp [*]; done)), H', ⟨Nat.le_refl _⟩, ⟨by (with_reducible repeat apply pR); exact HO0_2.out⟩, ⟨by (with_reducible repeat apply pK); exact BK153.out⟩, ⟨by repeat (first | (with_reducible first | exact HK.out | apply Kept.alloc | apply Kept.drewN | apply Kept.drew | refine Kept.setCell ?_ (.inr GW153.out) _) | exact HK.out)⟩, ⟨bl_⟩⟩
  case round =>
   clear H'
   try clear c1
   try clear p2
   try clear c4
   try clear c4b0
   try clear c5
   try clear c7
   obtain ⟨x6_1, x154002_1, rfl, HA, HK1, HO_154002, BK153, HK, HB⟩ := hrel
   have hl154002_1 := (Kd.R_reads' HO_154002.out).1
   rw [hl154002_1] at HO_154002
   (try simp only [hl154002_1])
   (try simp only [hl154002_1] at BK153)
   cases gk with
   | zero => exact absurd HA.out (by simp [edit_pushed.l0])
   | succ k1 =>
    have H := HA.out
    clear HA
    simp only [edit_pushed.l0] at H
    by_cases c9 : x6_1 > 0
    ·rw [if_pos c9] at H
     have c9b0 : decide (0 < x6_1) = true := decide_eq_true c9
     clear c9
     by_cases c10 : 0 ≤ x6_1
     ·rw [if_pos c10] at H
      have c10b0 : decide (0 ≤ x6_1) = true := decide_eq_true c10
      clear c10
      by_cases c11 : x6_1 < (l1.length : Int)
      ·rw [if_pos c11] at H
       have c11b0 : decide (x6_1 < (l1.length : Int)) = true := decide_eq_true c11
       clear c11
       obtain ⟨ji12, hji12⟩ : ∃ j_ : Int, (wrap64 (x6_1 - 1)) = j_ := ⟨_, rfl⟩
       replace H : (if 0 ≤ (ji12) then (if (ji12) < (l1.length : Int) then (if 0 ≤ (rd l1 (ji12)) then (if (rd l1 (ji12)) < (x154002_1.length : Int) then (if 0 ≤ (rd l1 x6_1) then (if (rd l1 x6_1) < (x154002_1.length : Int) then (edit_pushed.l0 k1 l1 ji12 a0_0 a0_1 (x154002_1.set ((rd l1 x6_1) : Int).toNat (⟨(rd_T35 x154002_1 (rd l1 (ji12))).f0, (⟨(rd_T35 x154002_1 (rd l1 (ji12))).f1.f0, (rd_T35 x154002_1 (rd l1 (ji12))).f1.f1, (rd_T35 x154002_1 (rd l1 (ji12))).f1.f2, (rd_T35 x154002_1 (rd l1 (ji12))).f1.f3⟩ : S33), (rd_T35 x154002_1 (rd l1 (ji12))).f2⟩ : S35)) a0_3 a0_4 a0_5) else (none)) else (none)) else (none)) else (none)) else (none)) else (none)) = some (r1, r2) := by first | (rw [hji12] at H; exact H) | (simp only [hji12] at H ⊢; exact H)
       have hji12w : (IntKind.i64.wrap (x6_1 - 1)) = ji12 := (i64_w _).trans hji12
       by_cases c13 : 0 ≤ (ji12)
       ·rw [if_pos c13] at H
        have c13b0 : decide (0 ≤ (ji12)) = true := decide_eq_true c13
        clear c13
        by_cases c14 : (ji12) < (l1.length : Int)
        ·rw [if_pos c14] at H
         have c14b0 : decide ((ji12) < (l1.length : Int)) = true := decide_eq_true c14
         clear c14
         by_cases c15 : 0 ≤ (rd l1 (ji12))
         ·rw [if_pos c15] at H
          have c15b0 : decide (0 ≤ (rd l1 (ji12))) = true := decide_eq_true c15
          clear c15
          by_cases c16 : (rd l1 (ji12)) < (x154002_1.length : Int)
          ·rw [if_pos c16] at H
           have c16b0 : decide ((rd l1 (ji12)) < (x154002_1.length : Int)) = true := decide_eq_true c16
           clear c16
           by_cases c17 : 0 ≤ (rd l1 x6_1)
           ·rw [if_pos c17] at H
            have c17b0 : decide (0 ≤ (rd l1 x6_1)) = true := decide_eq_true c17
            clear c17
            by_cases c18 : (rd l1 x6_1) < (x154002_1.length : Int)
            ·rw [if_pos c18] at H
             have c18b0 : decide ((rd l1 x6_1) < (x154002_1.length : Int)) = true := decide_eq_true c18
             clear c18
             obtain ⟨y158, hy158⟩ : ∃ y_ : List (S35), y_ = (x154002_1.set ((rd l1 x6_1) : Int).toNat (⟨(rd_T35 x154002_1 (rd l1 (ji12))).f0, (⟨(rd_T35 x154002_1 (rd l1 (ji12))).f1.f0, (rd_T35 x154002_1 (rd l1 (ji12))).f1.f1, (rd_T35 x154002_1 (rd l1 (ji12))).f1.f2, (rd_T35 x154002_1 (rd l1 (ji12))).f1.f3⟩ : S33), (rd_T35 x154002_1 (rd l1 (ji12))).f2⟩ : S35)) := ⟨_, rfl⟩
             replace H : (edit_pushed.l0 k1 l1 ji12 a0_0 a0_1 y158 a0_3 a0_4 a0_5) = some (r1, r2) := by first | (rw [hy158]; with_reducible exact H) | (have H2_ := (Option.bind_some _ _).symm.trans H; rw [hy158]; with_reducible exact H2_) | (have H2_ := (Option.bind_some _ _).symm.trans H; with_reducible exact H2_) | with_reducible exact H | (rw [hy158]; exact H) | exact H
             have Ny158 := Aside0.mk hy158
             clear hy158
             have H' := Aside0.mk H
             clear H
             try go_wp2
             have n0_ := Aside0.mk (Kd.R_drew HO_154002.out)
             have n1_ := Aside0.mk (blk_drew BK153.out)
             have n2_ := Aside0.mk (Kept.drew HK.out)
             have n3_ := Aside0.mk (below_drew1 HB.out)
             clear HO_154002
             clear BK153
             clear HK
             clear HB
             have HO_154002 := n0_
             have BK153 := n1_
             have HK := n2_
             have HB := n3_
             clear n0_ n1_ n2_ n3_
             have p155 : 0 ≤ (x6_1 : Int) := of_decide_eq_true (by first | (with_reducible assumption) | assumption)
             have q155 : x6_1 < (l1.length : Int) := of_decide_eq_true (by first | (with_reducible assumption) | assumption)
             obtain ⟨ad155, e155, hx155_0⟩ := Kd.at_int (Kd.C_kept_now HR1.out HK.out) x6_1 p155 q155
             have hw155_0 := hx155_0
             cases e155
             replace p155 := eq_true p155
             replace q155 := eq_true q155
             have p156 : 0 ≤ ((ji12) : Int) := of_decide_eq_true (by first | (with_reducible assumption) | assumption)
             have q156 : (ji12) < (l1.length : Int) := of_decide_eq_true (by first | (with_reducible assumption) | assumption)
             obtain ⟨ad156, e156, hx156_0⟩ := Kd.at_int (Kd.C_kept_now HR1.out HK.out) (ji12) p156 q156
             have hw156_0 := hx156_0
             obtain rfl : ad155 = ad156 := (by injection e156)
             replace p156 := eq_true p156
             replace q156 := eq_true q156
             have p157 : 0 ≤ ((rd l1 (ji12)) : Int) := of_decide_eq_true (by first | (with_reducible assumption) | assumption)
             have q157 : (rd l1 (ji12)) < (x154002_1.length : Int) := of_decide_eq_true (by first | (with_reducible assumption) | assumption)
             obtain ⟨ad157, e157, hx157_0, hx157_1, hx157_2, hx157_3, hx157_4, hx157_5⟩ := at_T35 (Kd.R_reads' HO_154002.out).2.2 (rd l1 (ji12)) p157 q157
             cases e157
             replace p157 := eq_true p157
             replace q157 := eq_true q157
             have p19 : 0 ≤ ((rd l1 x6_1) : Int) := of_decide_eq_true (by first | (with_reducible assumption) | assumption)
             have q19 : ((rd l1 x6_1) : Int) < ((x154002_1.length : Int) : Int) := of_decide_eq_true (by first | (with_reducible assumption) | assumption)
             obtain ⟨go19, co19, eo19, gb19, gl19, cl19, HG19⟩ := Kd.R_form HO_154002.out (by omega)
             (first | cases eo19 | (injection eo19 with ea_ en_ ec_; (first | subst ea_ | (injection ea_ with ea_; subst ea_)); subst ec_; clear en_))
             have GB19 := Aside0.mk gb19
             have GG19 := Aside0.mk HG19
             clear gb19 gl19 HG19
             have HMgo19 := Aside0.mk (show (P0_2_ go19 ∨ w.heap.size ≤ go19) from (HO_154002.out.1 _ rfl))
             (first | simp only [add_plain] at hx157_0 | skip)
             (first | simp only [add_plain] at hx157_1 | skip)
             (first | simp only [add_plain] at hx157_2 | skip)
             (first | simp only [add_plain] at hx157_3 | skip)
             (first | simp only [add_plain] at hx157_4 | skip)
             (first | simp only [add_plain] at hx157_5 | skip)
             obtain ⟨ce19, hcl19, hM19, hcc19, hfr19⟩ := Kd.R_elem HO_154002.out z35 ((rd l1 x6_1) : Int) p19 q19
             obtain rfl := k35_openM hM19
             have hx19_0 : World.cell? _ ⟨go19, ((rd l1 x6_1) : Int).toNat * 6, none⟩ = some (.bool ((rd_T35 x154002_1 (rd l1 x6_1)).f0)) := hcc19 0 _ rfl
             have hx19_1 : World.cell? _ ⟨go19, ((rd l1 x6_1) : Int).toNat * 6 + 1, none⟩ = some (.bool ((rd_T35 x154002_1 (rd l1 x6_1)).f1.f0)) := hcc19 1 _ rfl
             have hx19_2 : World.cell? _ ⟨go19, ((rd l1 x6_1) : Int).toNat * 6 + 2, none⟩ = some (.bool ((rd_T35 x154002_1 (rd l1 x6_1)).f1.f1)) := hcc19 2 _ rfl
             have hx19_3 : World.cell? _ ⟨go19, ((rd l1 x6_1) : Int).toNat * 6 + 3, none⟩ = some (.int .i64 ((rd_T35 x154002_1 (rd l1 x6_1)).f1.f2)) := hcc19 3 _ rfl
             have hx19_4 : World.cell? _ ⟨go19, ((rd l1 x6_1) : Int).toNat * 6 + 4, none⟩ = some (.bool ((rd_T35 x154002_1 (rd l1 x6_1)).f1.f3)) := hcc19 4 _ rfl
             have hx19_5 : World.cell? _ ⟨go19, ((rd l1 x6_1) : Int).toNat * 6 + 5, none⟩ = some (.int .u8 ((rd_T35 x154002_1 (rd l1 x6_1)).f2)) := hcc19 5 _ rfl
             have hf19_0 : World.frozen? _ ⟨go19, ((rd l1 x6_1) : Int).toNat * 6, none⟩ = false := hfr19 0
             have hf19_1 : World.frozen? _ ⟨go19, ((rd l1 x6_1) : Int).toNat * 6 + 1, none⟩ = false := hfr19 1
             have hf19_2 : World.frozen? _ ⟨go19, ((rd l1 x6_1) : Int).toNat * 6 + 2, none⟩ = false := hfr19 2
             have hf19_3 : World.frozen? _ ⟨go19, ((rd l1 x6_1) : Int).toNat * 6 + 3, none⟩ = false := hfr19 3
             have hf19_4 : World.frozen? _ ⟨go19, ((rd l1 x6_1) : Int).toNat * 6 + 4, none⟩ = false := hfr19 4
             have hf19_5 : World.frozen? _ ⟨go19, ((rd l1 x6_1) : Int).toNat * 6 + 5, none⟩ = false := hfr19 5
             clear hcl19 hcc19 hfr19 hM19
             replace p19 := eq_true p19
             replace q19 := eq_true q19
             obtain ⟨ce21, hcl21, hM21, hcc21, hfr21⟩ := Kd.R_elem HO_154002.out z35 ((rd l1 x6_1) : Int) (of_decide_eq_true (by first | (with_reducible assumption) | assumption)) (by have h_ : ((rd l1 x6_1) : Int) < ((x154002_1.length : Int) : Int) := of_decide_eq_true (by first | (with_reducible assumption) | assumption); first | exact h_ | (have e_ := (Kd.R_reads' HO_154002.out).1; omega) | simpa using h_)
             obtain rfl := k35_openM hM21
             have HP21 := (Kd.R_seg HO_154002.out ((rd l1 x6_1) : Int) (of_decide_eq_true (by first | (with_reducible assumption) | assumption)) (by have h_ : ((rd l1 x6_1) : Int) < ((x154002_1.length : Int) : Int) := of_decide_eq_true (by first | (with_reducible assumption) | assumption); first | exact h_ | (have e_ := (Kd.R_reads' HO_154002.out).1; omega) | simpa using h_) (seg := [.bool ((rd_T35 x154002_1 (rd l1 (ji12))).f0), .bool ((rd_T35 x154002_1 (rd l1 (ji12))).f1.f0), .bool ((rd_T35 x154002_1 (rd l1 (ji12))).f1.f1), .int .i64 ((rd_T35 x154002_1 (rd l1 (ji12))).f1.f2), .bool ((rd_T35 x154002_1 (rd l1 (ji12))).f1.f3), .int .u8 ((rd_T35 x154002_1 (rd l1 (ji12))).f2)]) (j := 0) hcl21 hcc21 (show 6 ≤ 6 from by decide) (x' := (⟨(rd_T35 x154002_1 (rd l1 (ji12))).f0, (⟨(rd_T35 x154002_1 (rd l1 (ji12))).f1.f0, (rd_T35 x154002_1 (rd l1 (ji12))).f1.f1, (rd_T35 x154002_1 (rd l1 (ji12))).f1.f2, (rd_T35 x154002_1 (rd l1 (ji12))).f1.f3⟩ : S33), (rd_T35 x154002_1 (rd l1 (ji12))).f2⟩ : S35)) (k35_mkM _ _ _ (⟨(rd_T35 x154002_1 (rd l1 (ji12))).f0, (⟨(rd_T35 x154002_1 (rd l1 (ji12))).f1.f0, (rd_T35 x154002_1 (rd l1 (ji12))).f1.f1, (rd_T35 x154002_1 (rd l1 (ji12))).f1.f2, (rd_T35 x154002_1 (rd l1 (ji12))).f1.f3⟩ : S33), (rd_T35 x154002_1 (rd l1 (ji12))).f2⟩ : S35) ) (fun _ hk => hk)).1
             rw [← Ny158.out] at HP21
             have HQ21 := Aside0.mk HP21
             clear hcl21 hcc21 hfr21 hM21 HP21
             refine start_ (n := 17) (S := fun w' => w'.cell? ⟨gb153, 0, none⟩ = some (.int .i64 a0_0) ∧ w'.cell? ⟨gb153, 1, none⟩ = some (.int .i64 a0_1) ∧ w'.cell? ⟨gb153, 2, none⟩ = some (.slice (some ⟨go19, 0, none⟩) x154002_1.length co7) ∧ w'.cell? ⟨gb153, 3, none⟩ = some (.int .i64 a0_3) ∧ w'.cell? ⟨gb153, 4, none⟩ = some (.bool a0_4) ∧ w'.cell? ⟨gb153, 5, none⟩ = some (.bool a0_5) ∧ w'.cell? (ad155.add (x6_1).toNat) = some (.int .i64 (rd l1 x6_1)) ∧ w'.cell? (ad155.add ((ji12)).toNat) = some (.int .i64 (rd l1 (ji12))) ∧ w'.cell? ⟨go19, (((rd l1 (ji12))).toNat * 6), none⟩ = some (.bool ((rd_T35 x154002_1 (rd l1 (ji12))).f0)) ∧ w'.cell? ⟨go19, (((rd l1 (ji12))).toNat * 6) + 1, none⟩ = some (.bool ((rd_T35 x154002_1 (rd l1 (ji12))).f1.f0)) ∧ w'.cell? ⟨go19, (((rd l1 (ji12))).toNat * 6) + 2, none⟩ = some (.bool ((rd_T35 x154002_1 (rd l1 (ji12))).f1.f1)) ∧ w'.cell? ⟨go19, (((rd l1 (ji12))).toNat * 6) + 3, none⟩ = some (.int .i64 ((rd_T35 x154002_1 (rd l1 (ji12))).f1.f2)) ∧ w'.cell? ⟨go19, (((rd l1 (ji12))).toNat * 6) + 4, none⟩ = some (.bool ((rd_T35 x154002_1 (rd l1 (ji12))).f1.f3)) ∧ w'.cell? ⟨go19, (((rd l1 (ji12))).toNat * 6) + 5, none⟩ = some (.int .u8 ((rd_T35 x154002_1 (rd l1 (ji12))).f2))) (ds := [16]) #[false, false, false, false, false, false, false, false, false, false, false, false, false, false, false, false, false] (by kernel_rfl) rfl rfl ⟨(blk_cell BK153.out 0).trans rfl, (blk_cell BK153.out 1).trans rfl, (blk_cell BK153.out 2).trans rfl, (blk_cell BK153.out 3).trans rfl, (blk_cell BK153.out 4).trans rfl, (blk_cell BK153.out 5).trans rfl, (Kd.foot_int (HR1.out _ (by repeat (first | exact HK.out | apply Kept.alloc | apply Kept.drewN | apply Kept.drew | refine Kept.setCell ?_ HMgo19.out _ | refine Kept.setCell ?_ HMgo19.out _ | refine Kept.setCell ?_ HMgo19.out _ | refine Kept.setCell ?_ HMgo19.out _ | refine Kept.setCell ?_ HMgo19.out _ | refine Kept.setCell ?_ HMgo19.out _))) x6_1 (of_eq_true p155) (of_eq_true q155)), (Kd.foot_int (HR1.out _ (by repeat (first | exact HK.out | apply Kept.alloc | apply Kept.drewN | apply Kept.drew | refine Kept.setCell ?_ HMgo19.out _ | refine Kept.setCell ?_ HMgo19.out _ | refine Kept.setCell ?_ HMgo19.out _ | refine Kept.setCell ?_ HMgo19.out _ | refine Kept.setCell ?_ HMgo19.out _ | refine Kept.setCell ?_ HMgo19.out _))) (ji12) (of_eq_true p156) (of_eq_true q156)), hx157_0, hx157_1, hx157_2, hx157_3, hx157_4, hx157_5⟩ (fun hHeld => ?_); refine with_tabW edit_pushed.tab7 edit_pushed.bits7 (fun HT_ HW_ => ?_)
             generalize wr.drew = w20 at HO_154002 BK153 HK HB GG19 HQ21 hf19_0 hf19_1 hf19_2 hf19_3 hf19_4 hf19_5 hx155_0 hx156_0 hx157_0 hx157_1 hx157_2 hx157_3 hx157_4 hx157_5 hx19_0 hx19_1 hx19_2 hx19_3 hx19_4 hx19_5 hHeld ⊢
             refine pure_ (i := 0) (N := some 17) (v := ?_) (a' := ?_) #[true, false, false, false, false, false, false, false, false, false, false, false, false, false, false, false, false] rfl rfl (any_of HT_.out (by kernel_rfl)) (fun _ _ _ h => h) (Or.inl ⟨by rfl, ?_⟩) ?_ ?_
             rotate_left
             ·intro w'
              go_simp
              with_reducible rfl
             rotate_left
             ·simp only [Act.put, List.setIfInBounds_toArray, List.set_cons_zero, List.set_cons_succ, i64_w, i32_w]
              rfl
             refine pure_ (i := 2) (N := some 19) (v := ?_) (a' := ?_) #[true, false, true, false, false, false, false, false, false, false, false, false, false, false, false, false, false] rfl rfl (any_of HT_.out (by kernel_rfl)) (fun _ _ _ h => h) (Or.inl ⟨by rfl, ?_⟩) ?_ ?_
             rotate_left
             ·intro w'
              go_simp
              with_reducible rfl
             rotate_left
             ·simp only [Act.put, List.setIfInBounds_toArray, List.set_cons_zero, List.set_cons_succ, i64_w, i32_w]
              rfl
             refine pure_ (i := 3) (N := some 20) (v := ?_) (a' := ?_) #[true, false, true, true, false, false, false, false, false, false, false, false, false, false, false, false, false] rfl rfl (any_of HT_.out (by kernel_rfl)) (fun _ _ _ h => h) (Or.inl ⟨by rfl, ?_⟩) ?_ ?_
             rotate_left
             ·intro w'
              go_simp
              with_reducible rfl
             rotate_left
             ·simp only [Act.put, List.setIfInBounds_toArray, List.set_cons_zero, List.set_cons_succ, i64_w, i32_w]
              rfl
             refine pure_ (i := 4) (N := some 21) (v := ?_) (a' := ?_) #[true, false, true, true, true, false, false, false, false, false, false, false, false, false, false, false, false] rfl rfl (any_of HT_.out (by kernel_rfl)) (fun _ _ _ h => h) (Or.inl ⟨by rfl, ?_⟩) ?_ ?_
             rotate_left
             ·intro w'
              go_simp
              with_reducible rfl
             rotate_left
             ·simp only [Act.put, List.setIfInBounds_toArray, List.set_cons_zero, List.set_cons_succ, i64_w, i32_w]
              rfl
             refine pure_ (i := 6) (N := some 23) (v := ?_) (a' := ?_) #[true, false, true, true, true, false, true, false, false, false, false, false, false, false, false, false, false] rfl rfl (any_of HT_.out (by kernel_rfl)) (fun _ _ _ h => h) (Or.inl ⟨by rfl, ?_⟩) ?_ ?_
             rotate_left
             ·intro w'
              go_simp
              with_reducible rfl
             rotate_left
             ·simp only [Act.put, List.setIfInBounds_toArray, List.set_cons_zero, List.set_cons_succ, i64_w, i32_w]
              rfl
             refine pure_ (i := 8) (N := some 25) (v := ?_) (a' := ?_) #[true, false, true, true, true, false, true, false, true, false, false, false, false, false, false, false, false] rfl rfl (any_of HT_.out (by kernel_rfl)) (fun _ _ _ h => h) (Or.inl ⟨by rfl, ?_⟩) ?_ ?_
             rotate_left
             ·intro w'
              go_simp
              with_reducible rfl
             rotate_left
             ·simp only [Act.put, List.setIfInBounds_toArray, List.set_cons_zero, List.set_cons_succ, i64_w, i32_w]
              rfl
             refine pure_ (i := 9) (N := some 26) (v := ?_) (a' := ?_) #[true, false, true, true, true, false, true, false, true, true, false, false, false, false, false, false, false] rfl rfl (any_of HT_.out (by kernel_rfl)) (fun _ _ _ h => h) (Or.inl ⟨by rfl, ?_⟩) ?_ ?_
             rotate_left
             ·intro w'
              go_simp
              with_reducible rfl
             rotate_left
             ·simp only [Act.put, List.setIfInBounds_toArray, List.set_cons_zero, List.set_cons_succ, i64_w, i32_w]
              rfl
             refine pure_ (i := 10) (N := some 27) (v := ?_) (a' := ?_) #[true, false, true, true, true, false, true, false, true, true, true, false, false, false, false, false, false] rfl rfl (any_of HT_.out (by kernel_rfl)) (fun _ _ _ h => h) (Or.inl ⟨by rfl, ?_⟩) ?_ ?_
             rotate_left
             ·intro w'
              go_simp
              with_reducible rfl
             rotate_left
             ·simp only [Act.put, List.setIfInBounds_toArray, List.set_cons_zero, List.set_cons_succ, i64_w, i32_w]
              rfl
             refine pure_ (i := 11) (N := some 28) (v := ?_) (a' := ?_) #[true, false, true, true, true, false, true, false, true, true, true, true, false, false, false, false, false] rfl rfl (any_of HT_.out (by kernel_rfl)) (fun _ _ _ h => h) (Or.inl ⟨by rfl, ?_⟩) ?_ ?_
             rotate_left
             ·intro w'
              go_simp
              with_reducible rfl
             rotate_left
             ·simp only [Act.put, List.setIfInBounds_toArray, List.set_cons_zero, List.set_cons_succ, i64_w, i32_w]
              rfl
             refine take_ (i := 1) (N := some 18) (v := ?_) (a' := ?_) #[true, true, true, true, true, false, true, false, true, true, true, true, false, false, false, false, false] rfl rfl (take_ofW HT_.out HW_.out (by kernel_rfl)) (fun _ _ _ h => h) (Or.inl ⟨by rfl, ?_⟩) hHeld ?_ ?_
             rotate_left
             ·rintro w' ⟨s0, s1, s2, s3, s4, s5, s6, s7, s8, s9, s10, s11, s12, s13⟩
              go_simp
              with_reducible rfl
             rotate_left
             ·simp only [Act.put, List.setIfInBounds_toArray, List.set_cons_zero, List.set_cons_succ, i64_w, i32_w]
              rfl
             refine take_ (i := 5) (N := some 22) (v := ?_) (a' := ?_) #[true, true, true, true, true, true, true, false, true, true, true, true, false, false, false, false, false] rfl rfl (take_ofW HT_.out HW_.out (by kernel_rfl)) (fun _ _ _ h => h) (Or.inl ⟨by rfl, ?_⟩) hHeld ?_ ?_
             rotate_left
             ·rintro w' ⟨s0, s1, s2, s3, s4, s5, s6, s7, s8, s9, s10, s11, s12, s13⟩
              go_simp
              with_reducible rfl
             rotate_left
             ·simp only [Act.put, List.setIfInBounds_toArray, List.set_cons_zero, List.set_cons_succ, i64_w, i32_w]
              rfl
             refine take_ (i := 7) (N := some 24) (v := ?_) (a' := ?_) #[true, true, true, true, true, true, true, true, true, true, true, true, false, false, false, false, false] rfl rfl (take_ofW HT_.out HW_.out (by kernel_rfl)) (fun _ _ _ h => h) (Or.inl ⟨by rfl, ?_⟩) hHeld ?_ ?_
             rotate_left
             ·rintro w' ⟨s0, s1, s2, s3, s4, s5, s6, s7, s8, s9, s10, s11, s12, s13⟩
              go_simp
              with_reducible rfl
             rotate_left
             ·simp only [Act.put, List.setIfInBounds_toArray, List.set_cons_zero, List.set_cons_succ, i64_w, i32_w]
              rfl
             refine take_ (i := 12) (N := some 29) (v := ?_) (a' := ?_) #[true, true, true, true, true, true, true, true, true, true, true, true, true, false, false, false, false] rfl rfl (take_ofW HT_.out HW_.out (by kernel_rfl)) (fun _ _ _ h => h) (Or.inl ⟨by rfl, ?_⟩) hHeld ?_ ?_
             rotate_left
             ·rintro w' ⟨s0, s1, s2, s3, s4, s5, s6, s7, s8, s9, s10, s11, s12, s13⟩
              go_simp
              with_reducible rfl
             rotate_left
             ·simp only [Act.put, List.setIfInBounds_toArray, List.set_cons_zero, List.set_cons_succ, i64_w, i32_w]
              rfl
             refine pure_ (i := 13) (N := some 30) (v := ?_) (a' := ?_) #[true, true, true, true, true, true, true, true, true, true, true, true, true, true, false, false, false] rfl rfl (any_of HT_.out (by kernel_rfl)) (fun _ _ _ h => h) (Or.inl ⟨by rfl, ?_⟩) ?_ ?_
             rotate_left
             ·intro w'
              go_simp
              with_reducible rfl
             rotate_left
             ·simp only [Act.put, List.setIfInBounds_toArray, List.set_cons_zero, List.set_cons_succ, i64_w, i32_w]
              rfl
             refine take_ (i := 14) (N := some 31) (v := ?_) (a' := ?_) #[true, true, true, true, true, true, true, true, true, true, true, true, true, true, true, false, false] rfl rfl (take_ofW HT_.out HW_.out (by kernel_rfl)) (fun _ _ _ h => h) (Or.inl ⟨by rfl, ?_⟩) hHeld ?_ ?_
             rotate_left
             ·rintro w' ⟨s0, s1, s2, s3, s4, s5, s6, s7, s8, s9, s10, s11, s12, s13⟩
              go_simp
              with_reducible rfl
             rotate_left
             ·simp only [Act.put, List.setIfInBounds_toArray, List.set_cons_zero, List.set_cons_succ, i64_w, i32_w]
              rfl
             refine pure_ (i := 15) (N := some 32) (v := ?_) (a' := ?_) #[true, true, true, true, true, true, true, true, true, true, true, true, true, true, true, true, false] rfl rfl (any_of HT_.out (by kernel_rfl)) (fun _ _ _ h => h) (Or.inl ⟨by rfl, ?_⟩) ?_ ?_
             rotate_left
             ·intro w'
              go_simp
              with_reducible rfl
             rotate_left
             ·simp only [Act.put, List.setIfInBounds_toArray, List.set_cons_zero, List.set_cons_succ, i64_w, i32_w]
              rfl
             refine last_ (i := 16) (N := none) #[true, true, true, true, true, true, true, true, true, true, true, true, true, true, true, true, true] rfl rfl (one_of HT_.out (by kernel_rfl)) (by decide) (fun K hK => ?_)
             refine skip_ (w1 := ?_) (by rfl) rfl ?_ ?_
             rotate_left
             ·go_simp
              rfl
             refine hK.out _ _ ?_
             clear hK K
             refine done_ (done_of HT_.out (by kernel_rfl)) ?_
             try go_wp2
             (try simp only [← hl154002_1])
             go_roundg k1
             case measure => have := HK1.out; omega
             case rel => exact ⟨(ji12), (y158), (by first | rfl | (simp; done) | (simp only [← hji12] <;> (first | rfl | simp)) | (simp [*]; done)), H', ⟨by have := HK1.out; omega⟩, ⟨by (try simp only [hl154002_1]); (with_reducible repeat apply pR); exact HQ21.out⟩, ⟨by (try simp only [hl154002_1]); (with_reducible repeat apply pK); refine blk_far ?_ (by have h_ := Kd.R_ne HO_154002.out BK153.out (by decide); intro e_; exact h_ (by rw [e_]; rfl)) _; (with_reducible repeat apply pK); refine blk_far ?_ (by have h_ := Kd.R_ne HO_154002.out BK153.out (by decide); intro e_; exact h_ (by rw [e_]; rfl)) _; (with_reducible repeat apply pK); refine blk_far ?_ (by have h_ := Kd.R_ne HO_154002.out BK153.out (by decide); intro e_; exact h_ (by rw [e_]; rfl)) _; (with_reducible repeat apply pK); refine blk_far ?_ (by have h_ := Kd.R_ne HO_154002.out BK153.out (by decide); intro e_; exact h_ (by rw [e_]; rfl)) _; (with_reducible repeat apply pK); refine blk_far ?_ (by have h_ := Kd.R_ne HO_154002.out BK153.out (by decide); intro e_; exact h_ (by rw [e_]; rfl)) _; (with_reducible repeat apply pK); refine blk_far ?_ (by have h_ := Kd.R_ne HO_154002.out BK153.out (by decide); intro e_; exact h_ (by rw [e_]; rfl)) _; (with_reducible repeat apply pK); exact BK153.out⟩, ⟨by repeat (first | (with_reducible first | exact HK.out | apply Kept.alloc | apply Kept.drewN | apply Kept.drew | refine Kept.setCell ?_ HMgo19.out _ | refine Kept.setCell ?_ HMgo19.out _ | refine Kept.setCell ?_ HMgo19.out _ | refine Kept.setCell ?_ HMgo19.out _ | refine Kept.setCell ?_ HMgo19.out _ | refine Kept.setCell ?_ HMgo19.out _ | refine Kept.setCell ?_ (.inr GW153.out) _) | exact HK.out)⟩, ⟨by repeat (first | (with_reducible first | exact HB.out | apply below_alloc | apply pw_below_drewN | apply below_drew1 | refine below_set ?_ GB19.out | refine below_set ?_ GB19.out | refine below_set ?_ GB19.out | refine below_set ?_ GB19.out | refine below_set ?_ GB19.out | refine below_set ?_ GB19.out | refine below_set ?_ GE153.out) | exact HB.out)⟩⟩
            ·rw [if_neg c18] at H
             exact absurd H (by simp)
           ·rw [if_neg c17] at H
            exact absurd H (by simp)
          ·rw [if_neg c16] at H
           exact absurd H (by simp)
         ·rw [if_neg c15] at H
          exact absurd H (by simp)
        ·rw [if_neg c14] at H
         exact absurd H (by simp)
       ·rw [if_neg c13] at H
        exact absurd H (by simp)
      ·rw [if_neg c11] at H
       exact absurd H (by simp)
     ·rw [if_neg c10] at H
      exact absurd H (by simp)
    ·rw [if_neg c9] at H
     have c9b0 : decide (0 < x6_1) = false := decide_eq_false c9
     clear c9
     simp only [Option.some.injEq, Prod.mk.injEq] at H
     obtain ⟨rfl, rfl⟩ := H
     go_wp2
     go_ret
     exact ⟨by first | rfl | (simp [errW_none, errW_some] <;> rfl) | (simp [*, errW_none, errW_some] <;> rfl), (by first | exact (by (with_reducible repeat apply pR); exact HO_154002.out) | (simp only [hl154002_1]; exact (by (with_reducible repeat apply pR); exact HO_154002.out))), bl_, by repeat (first | (with_reducible first | exact HK.out | apply Kept.alloc | apply Kept.drewN | apply Kept.drew | refine Kept.setCell ?_ (.inr GW153.out) _) | exact HK.out)⟩

/-! ### grid_On: function 80 -/
def grid_On.f (a0_0 : Int) (a0_1 : Int) (l0_2 : List (S35)) (a0_3 : Int) (a0_4 : Bool) (a0_5 : Bool) (a1 : Int) (a2 : Int) : Option (Int) := if (l0_2.length : Int) = 0 then (none) else (some (Int.tmod (wrap64 ((wrap64 (a1 + (Int.tmod a2 (l0_2.length : Int)))) + (l0_2.length : Int))) (l0_2.length : Int)))
set_option maxHeartbeats 8000000 in
set_option maxRecDepth 100000 in
theorem grid_On.calls (a0_0 : Int) (a0_1 : Int) (A0_2 : Option Addr) (c0_2 : Nat) (l0_2 : List (S35)) (a0_3 : Int) (a0_4 : Bool) (a0_5 : Bool) (a1 : Int) (a2 : Int) (r : Int) (w : World) (hr0_2 : Kd.C k35 w A0_2 l0_2.length l0_2) (hc0_2 : l0_2.length ≤ c0_2) (h : grid_On.f a0_0 a0_1 l0_2 a0_3 a0_4 a0_5 a1 a2 = some r) :
  Calls Tryd.prog 80 #[.agg #[.int .i64 a0_0, .int .i64 a0_1, .slice A0_2 l0_2.length c0_2, .int .i64 a0_3, .bool a0_4, .bool a0_5], .int .i64 a1, .int .i64 a2] w fun e w' => e = .returned (.int .i64 r) ∧ Below w.heap.size w w' := by
 have hu24 := Tryd.underlying24
 have HR0_2 := Aside0.mk hr0_2
 have HC0_2 := Aside0.mk hc0_2
 clear hr0_2 hc0_2
 have HB := Aside0.mk (Below.refl w.heap.size w)
 have H : (if (l0_2.length : Int) = 0 then (none) else (some (Int.tmod (wrap64 ((wrap64 (a1 + (Int.tmod a2 (l0_2.length : Int)))) + (l0_2.length : Int))) (l0_2.length : Int)))) = some r := h
 clear h
 by_cases c4 : (l0_2.length : Int) = 0
 ·rw [if_pos c4] at H
  exact absurd H (by simp)
 ·rw [if_neg c4] at H
  have c4b0 : ((l0_2.length : Int) == 0) = false := beq_eq_false_iff_ne.mpr c4
  have c4b1 : ((l0_2.length : Int) != 0) = true := bne_iff_ne.mpr c4
  have c4b2 : ¬ (l0_2 = []) := fun h_ => c4 (by rw [h_]; rfl)
  obtain rfl := Option.some.inj H
  go_enter Tryd.func80, Tryd.ntmps80
  go_wp2_with (first | ((with_reducible refine gate_dst (N := 3) rfl ?_); refine box_event ?hg (N := 3) ?hd (cs := #[.int .i64 a0_0, .int .i64 a0_1, .slice A0_2 l0_2.length c0_2, .int .i64 a0_3, .bool a0_4, .bool a0_5]) (t := 24) ?hr ?_; (case hd => rfl); (case hg => rfl); (case hr => first | (go_simp; done) | (go_simp; rfl)); intro gb159 hg w5 hbox hb; have n0_ := Aside0.mk (below_step bl_ hb); have n1_ := Aside0.mk (hbox); have n2_ := Aside0.mk ((le_new hg (below_size bl_) : w.heap.size ≤ gb159)); have n3_ := Aside0.mk ((le_new hg (below_size bl_) : w.heap.size ≤ gb159)); clear HB; have HB := n0_; have BK159 := n1_; have GW159 := n2_; have GE159 := n3_; clear n0_ n1_ n2_ n3_; clear hb hbox hg; obtain ⟨hcz6_0, hcz6_1, hcz6_2, hcz6_3, hcz6_4, hcz6_5, hfz6_0, hfz6_1, hfz6_2, hfz6_3, hfz6_4, hfz6_5⟩ := cells6 (show w5.heap[gb159]? = some (.cells #[.int .i64 a0_0, .int .i64 a0_1, .slice A0_2 l0_2.length c0_2, .int .i64 a0_3, .bool a0_4, .bool a0_5] _ (0, 0)) from BK159.out)))
  go_ret
  exact ⟨by first | rfl | (simp [errW_none, errW_some] <;> rfl) | (simp [*, errW_none, errW_some] <;> rfl), bl_⟩

end Go.Proofs.YtggecanpjkpkiaaDoor.P
