/- The functions of the seat's laws as plain Lean functions, and that Go's code comes to just their answers. Written by pp.py (wip/tools), a program of this session, on the kit's print. -/
import Derived.Test.YtggecanpjkpkiaaDoorPx0
import Derived.Test.YtggecanpjkpkiaaDoorPx5
import Derived.Test.YtggecanpjkpkiaaDoorPx6
import Derived.Test.YtggecanpjkpkiaaDoorPx8
namespace Go.Proofs.YtggecanpjkpkiaaDoor.P
open Go.RowKit Go.Proofs.YtggecanpjkpkiaaDoorW.PrintWords Go.Proofs.YtggecanpjkpkiaaDoorW.PrintLast Go.Proofs.YtggecanpjkpkiaaDoorW.PrintMore
attribute [local go_sem] max2_int min2_int max_two min_two max_three min_three max_four min_four   -- for this text's walks alone
attribute [local go_sem] Instr.field asAgg
set_option linter.unusedVariables false
set_option linter.unusedSimpArgs false

/-! ### edit_Type: function 31 -/
mutual
def edit_Type.j0 : Nat → Int → Bool → Int → Int → List (S35) → Int → Bool → Bool → Option (Int × Int × (List (S35)) × Int × Bool × Bool × Option Er × (List (S164)))
 | 0, _, _, _, _, _, _, _, _ => none
 | k + 1, x1, x8, x173000, x173001, x173002, x173003, x173004, x173005 => if x8 = true then (some (x173000, x173001, x173002, x173003, x173004, x173005, some (Er.num 3), ([] : List (S164)))) else (if x173004 = true then (some (x173000, x173001, x173002, x173003, x173004, x173005, some (Er.num 7), ([] : List (S164)))) else ((edit_fits.f k x173000 x173001 x173002 x173003 x173004 x173005 x1).bind fun bt175 => (if bt175.1.isNone = true then ((edit_Modify.f x173000 x173001 x173002 x173003 x173004 x173005 x173003).bind fun bt180 => (if x173005 = true then ((edit_Line.f k x173000 x173001 x173002 x173003 x173004 x173005 x173003).bind fun t189 => ((edit_pushed.f k bt180.1 bt180.2.1 bt180.2.2.1 bt180.2.2.2.1 bt180.2.2.2.2.1 bt180.2.2.2.2.2 t189).bind fun bt192 => (edit_Type.j1 k x1 (!bt192.1) x173000 x173001 x173002 x173003 x173004 x173005 bt180.1 bt180.2.1 bt192.2 bt180.2.2.2.1 bt180.2.2.2.2.1 bt180.2.2.2.2.2))) else (edit_Type.j1 k x1 false x173000 x173001 x173002 x173003 x173004 x173005 bt180.1 bt180.2.1 bt180.2.2.1 bt180.2.2.2.1 bt180.2.2.2.2.1 bt180.2.2.2.2.2))) else ((edit_Deny.f x173000 x173001 x173002 x173003 x173004 x173005 (some (bt175.1.getD ez)) bt175.2).bind fun bt208 => (some (bt208.1, bt208.2.1, bt208.2.2.1, bt208.2.2.2.1, bt208.2.2.2.2.1, bt208.2.2.2.2.2.1, bt208.2.2.2.2.2.2.1, bt208.2.2.2.2.2.2.2))))))
def edit_Type.j1 : Nat → Int → Bool → Int → Int → List (S35) → Int → Bool → Bool → Int → Int → List (S35) → Int → Bool → Bool → Option (Int × Int × (List (S35)) × Int × Bool × Bool × Option Er × (List (S164)))
 | 0, _, _, _, _, _, _, _, _, _, _, _, _, _, _ => none
 | k + 1, x1, x47, x173000, x173001, x173002, x173003, x173004, x173005, x189000, x189001, x189002, x189003, x189004, x189005 => if x47 = true then ((edit_Deny.f x173000 x173001 x173002 x173003 x173004 x173005 (some (Er.num 10)) ([] : List (S164))).bind fun bt194 => (some (bt194.1, bt194.2.1, bt194.2.2.1, bt194.2.2.2.1, bt194.2.2.2.2.1, bt194.2.2.2.2.2.1, bt194.2.2.2.2.2.2.1, bt194.2.2.2.2.2.2.2))) else (if 0 ≤ x173003 then (if x173003 < (x189002.length : Int) then ((some (x189002.set (x173003 : Int).toNat (⟨false, (⟨false, false, 0, false⟩ : S33), x1⟩ : S35) : List (S35))).bind fun y206 => ((edit_onward.f k x189000 x189001 y206 x189003 x189004 x189005).bind fun t207 => (some (x189000, x189001, y206, t207, x189004, x189005, none, ([] : List (S164)))))) else (none)) else (none))
end
def edit_Type.f (k : Nat) (a0_0 : Int) (a0_1 : Int) (l0_2 : List (S35)) (a0_3 : Int) (a0_4 : Bool) (a0_5 : Bool) (a1 : Int) : Option (Int × Int × (List (S35)) × Int × Bool × Bool × Option Er × (List (S164))) := if a1 = 0 then (edit_Type.j0 k a1 true a0_0 a0_1 l0_2 a0_3 a0_4 a0_5) else ((attr_Char.f a1).bind fun t174 => (edit_Type.j0 k a1 (!t174) a0_0 a0_1 l0_2 a0_3 a0_4 a0_5))
theorem edit_Type.mono_l : ∀ k, (∀ y0 y1 y2 y3 y4 y5 y6 y7, LeO (edit_Type.j0 k y0 y1 y2 y3 y4 y5 y6 y7) (edit_Type.j0 (k + 1) y0 y1 y2 y3 y4 y5 y6 y7)) ∧ (∀ y0 y1 y2 y3 y4 y5 y6 y7 y8 y9 y10 y11 y12 y13, LeO (edit_Type.j1 k y0 y1 y2 y3 y4 y5 y6 y7 y8 y9 y10 y11 y12 y13) (edit_Type.j1 (k + 1) y0 y1 y2 y3 y4 y5 y6 y7 y8 y9 y10 y11 y12 y13))
 | 0 => ⟨fun _ _ _ _ _ _ _ _ r h => by simp [edit_Type.j0] at h, fun _ _ _ _ _ _ _ _ _ _ _ _ _ _ r h => by simp [edit_Type.j1] at h⟩
 | k + 1 => by
  obtain ⟨ih0, ih1⟩ := edit_Type.mono_l k
  refine ⟨?_, ?_⟩
  ·intro y0 y1 y2 y3 y4 y5 y6 y7
   unfold edit_Type.j0
   repeat' first
   | (with_reducible exact ih0 _ _ _ _ _ _ _ _)
   | (with_reducible exact ih1 _ _ _ _ _ _ _ _ _ _ _ _ _ _)
   | (with_reducible exact edit_Line.mono _ _ _ _ _ _ _ _)
   | (with_reducible exact edit_fits.mono _ _ _ _ _ _ _ _)
   | (with_reducible exact edit_onward.mono _ _ _ _ _ _ _)
   | (with_reducible exact edit_pushed.mono _ _ _ _ _ _ _ _)
   | (with_reducible exact LeO.refl _)
   | (with_reducible exact LeO.none _)
   | (with_reducible refine LeO.ite ?_ ?_)
   | (with_reducible refine LeO.bind ?_ (fun _ => ?_))
   | exact ih0 _ _ _ _ _ _ _ _
   | exact ih1 _ _ _ _ _ _ _ _ _ _ _ _ _ _
   | exact edit_Line.mono _ _ _ _ _ _ _ _
   | exact edit_fits.mono _ _ _ _ _ _ _ _
   | exact edit_onward.mono _ _ _ _ _ _ _
   | exact edit_pushed.mono _ _ _ _ _ _ _ _
   | exact LeO.none _
   | refine LeO.ite ?_ ?_
   | refine LeO.bind ?_ (fun _ => ?_)
  ·intro y0 y1 y2 y3 y4 y5 y6 y7 y8 y9 y10 y11 y12 y13
   unfold edit_Type.j1
   repeat' first
   | (with_reducible exact ih0 _ _ _ _ _ _ _ _)
   | (with_reducible exact ih1 _ _ _ _ _ _ _ _ _ _ _ _ _ _)
   | (with_reducible exact edit_Line.mono _ _ _ _ _ _ _ _)
   | (with_reducible exact edit_fits.mono _ _ _ _ _ _ _ _)
   | (with_reducible exact edit_onward.mono _ _ _ _ _ _ _)
   | (with_reducible exact edit_pushed.mono _ _ _ _ _ _ _ _)
   | (with_reducible exact LeO.refl _)
   | (with_reducible exact LeO.none _)
   | (with_reducible refine LeO.ite ?_ ?_)
   | (with_reducible refine LeO.bind ?_ (fun _ => ?_))
   | exact ih0 _ _ _ _ _ _ _ _
   | exact ih1 _ _ _ _ _ _ _ _ _ _ _ _ _ _
   | exact edit_Line.mono _ _ _ _ _ _ _ _
   | exact edit_fits.mono _ _ _ _ _ _ _ _
   | exact edit_onward.mono _ _ _ _ _ _ _
   | exact edit_pushed.mono _ _ _ _ _ _ _ _
   | exact LeO.none _
   | refine LeO.ite ?_ ?_
   | refine LeO.bind ?_ (fun _ => ?_)
theorem edit_Type.mono : ∀ a0 a1 a2 a3 a4 a5 a6 k, LeO (edit_Type.f k a0 a1 a2 a3 a4 a5 a6) (edit_Type.f (k + 1) a0 a1 a2 a3 a4 a5 a6) := by
 intro a0 a1 a2 a3 a4 a5 a6 k
 obtain ⟨ih0, ih1⟩ := edit_Type.mono_l k
 unfold edit_Type.f
 repeat' first
   | (with_reducible exact ih0 _ _ _ _ _ _ _ _)
   | (with_reducible exact ih1 _ _ _ _ _ _ _ _ _ _ _ _ _ _)
   | (with_reducible exact edit_Line.mono _ _ _ _ _ _ _ _)
   | (with_reducible exact edit_fits.mono _ _ _ _ _ _ _ _)
   | (with_reducible exact edit_onward.mono _ _ _ _ _ _ _)
   | (with_reducible exact edit_pushed.mono _ _ _ _ _ _ _ _)
   | (with_reducible exact LeO.refl _)
   | (with_reducible exact LeO.none _)
   | (with_reducible refine LeO.ite ?_ ?_)
   | (with_reducible refine LeO.bind ?_ (fun _ => ?_))
   | exact ih0 _ _ _ _ _ _ _ _
   | exact ih1 _ _ _ _ _ _ _ _ _ _ _ _ _ _
   | exact edit_Line.mono _ _ _ _ _ _ _ _
   | exact edit_fits.mono _ _ _ _ _ _ _ _
   | exact edit_onward.mono _ _ _ _ _ _ _
   | exact edit_pushed.mono _ _ _ _ _ _ _ _
   | exact LeO.none _
   | refine LeO.ite ?_ ?_
   | refine LeO.bind ?_ (fun _ => ?_)
def edit_Type.T9 : Bool × List (List Nat × List Nat) := (true, [([], []), ([0], [0]), ([1], [1]), ([2], [2]), ([2], [2]), ([2], [2]), ([5, 2], [2, 5]), ([4, 6, 2, 2], [2, 4, 6]), ([3, 7, 7, 2], [2, 3, 7]), ([8, 2], [2, 8]), ([2, 9], [2, 9])])
def edit_Type.B9 : List Nat := [0, 1, 3, 7, 7, 7, 39, 119, 255, 511, 1023]
theorem edit_Type.tab9 : rtab .any (opsOf Tryd.f31 9) = edit_Type.T9 := by kernel_rfl
theorem edit_Type.bits9 : waitsOk edit_Type.T9.2 edit_Type.B9 = true := by kernel_rfl
set_option maxHeartbeats 8000000 in
set_option maxRecDepth 100000 in
theorem edit_Type.calls (k : Nat) (a0_0 : Int) (a0_1 : Int) (P0_2_ : Nat → Prop) (A0_2 : Option Addr) (c0_2 : Nat) (l0_2 : List (S35)) (a0_3 : Int) (a0_4 : Bool) (a0_5 : Bool) (a1 : Int) (r1 : Int) (r2 : Int) (r3 : List (S35)) (r4 : Int) (r5 : Bool) (r6 : Bool) (r7 : Option Er) (r8 : List (S164)) (w : World) (hs0_2 : Kd.V k35 35 w w.heap.size (fun k_ => P0_2_ k_) (.slice A0_2 l0_2.length c0_2) l0_2) (h : edit_Type.f k a0_0 a0_1 l0_2 a0_3 a0_4 a0_5 a1 = some (r1, r2, r3, r4, r5, r6, r7, r8)) :
  Calls Tryd.prog 31 #[.agg #[.int .i64 a0_0, .int .i64 a0_1, .slice A0_2 l0_2.length c0_2, .int .i64 a0_3, .bool a0_4, .bool a0_5], .int .u8 a1] w fun e w' => ∃ v2_ v7_ : Value, e = .returned (.tuple #[.agg #[.int .i64 r1, .int .i64 r2, v2_, .int .i64 r4, .bool r5, .bool r6], errW v7_ r7]) ∧ Kd.V k35 35 w' w.heap.size (fun k_ => (P0_2_ k_ ∨ w.heap.size ≤ k_)) v2_ r3 ∧ Kd.V k164 164 w' w.heap.size (fun k_ => (P0_2_ k_ ∨ w.heap.size ≤ k_)) v7_ r8 ∧ Below w.heap.size w w' := by
 have hu24 := Tryd.underlying24
 have hu35 := Tryd.underlying35
 have hu28 := Tryd.underlying28
 have hu52 := Tryd.underlying52
 have HO0_2 := Aside0.mk (show Kd.V k35 35 w w.heap.size (fun k_ => (P0_2_ k_ ∨ w.heap.size ≤ k_)) (.slice A0_2 l0_2.length c0_2) l0_2 from Kd.V_mono hs0_2 (fun k_ hk => .inl hk))
 have HB := Aside0.mk (Below.refl w.heap.size w)
 have H : (if a1 = 0 then (edit_Type.j0 k a1 true a0_0 a0_1 l0_2 a0_3 a0_4 a0_5) else ((attr_Char.f a1).bind fun t174 => (edit_Type.j0 k a1 (!t174) a0_0 a0_1 l0_2 a0_3 a0_4 a0_5))) = some (r1, r2, r3, r4, r5, r6, r7, r8) := h
 clear h
 have HC3 := Aside0.mk H
 clear H
 go_enter Tryd.func31, Tryd.ntmps31
 go_upto_region 1 with (first | ((with_reducible refine gate_dst (N := 2) rfl ?_); refine box_event ?hg (N := 2) ?hd (cs := #[.int .i64 a0_0, .int .i64 a0_1, .slice A0_2 l0_2.length c0_2, .int .i64 a0_3, .bool a0_4, .bool a0_5]) (t := 24) ?hr ?_; (case hd => rfl); (case hg => rfl); (case hr => first | (go_simp; done) | (go_simp; rfl)); intro gb172 hg w4 hbox hb; have n0_ := Aside0.mk (Kd.V_below (Kd.V_elderB (by (with_reducible repeat apply pV); exact HO0_2.out) gb172 (Nat.le_of_eq hg.symm)) hb); have n1_ := Aside0.mk (below_step bl_ hb); have n2_ := Aside0.mk (hbox); have n3_ := Aside0.mk ((le_new hg (below_size bl_) : w.heap.size ≤ gb172)); have n4_ := Aside0.mk ((le_new hg (below_size bl_) : w.heap.size ≤ gb172)); clear HO0_2; clear HB; have HO0_2 := n0_; have HB := n1_; have BK172 := n2_; have GW172 := n3_; have GE172 := n4_; clear n0_ n1_ n2_ n3_ n4_; clear hb hbox hg) | ((with_reducible refine gate_dst (N := 4) rfl ?_); refine box_event ?hg (N := 4) ?hd (cs := #[.int .i64 0, .int .i64 0, .slice none 0 0, .int .i64 0, .bool false, .bool false]) (t := 24) ?hr ?_; (case hd => rfl); (case hg => rfl); (case hr => first | (go_simp; done) | (go_simp; rfl)); intro gb173 hg w5 hbox hb; have n0_ := Aside0.mk (Kd.V_below (Kd.V_elderB (by (with_reducible repeat apply pV); exact HO0_2.out) gb173 (Nat.le_of_eq hg.symm)) hb); have n1_ := Aside0.mk (blk_below (g := gb172) (o := .cells #[.int .i64 a0_0, .int .i64 a0_1, .slice A0_2 l0_2.length c0_2, .int .i64 a0_3, .bool a0_4, .bool a0_5] 24 (0, 0)) (by (with_reducible repeat apply pK); exact BK172.out) hb); have n2_ := Aside0.mk (below_step bl_ hb); have n3_ := Aside0.mk (hbox); have n4_ := Aside0.mk ((le_new hg (below_size bl_) : w.heap.size ≤ gb173)); have n5_ := Aside0.mk ((le_new hg (below_size bl_) : w.heap.size ≤ gb173)); have n6_ := Aside0.mk ((by rw [hg]; exact Nat.ne_of_lt (blk_lt (g := gb172) (o := .cells #[.int .i64 a0_0, .int .i64 a0_1, .slice A0_2 l0_2.length c0_2, .int .i64 a0_3, .bool a0_4, .bool a0_5] 24 (0, 0)) (by (with_reducible repeat apply pK); exact BK172.out)) : gb172 ≠ gb173)); have n7_ := Aside0.mk ((by rw [hg]; exact Nat.ne_of_gt (blk_lt (g := gb172) (o := .cells #[.int .i64 a0_0, .int .i64 a0_1, .slice A0_2 l0_2.length c0_2, .int .i64 a0_3, .bool a0_4, .bool a0_5] 24 (0, 0)) (by (with_reducible repeat apply pK); exact BK172.out)) : gb173 ≠ gb172)); clear HO0_2; clear BK172; clear HB; have HO0_2 := n0_; have BK172 := n1_; have HB := n2_; have BK173 := n3_; have GW173 := n4_; have GE173 := n5_; have NB172_173 := n6_; have NB173_172 := n7_; clear n0_ n1_ n2_ n3_ n4_ n5_ n6_ n7_; clear hb hbox hg))
 (try simp only [Act.put, List.setIfInBounds_toArray, List.set_cons_zero, List.set_cons_succ])
 go_cut [8] (fun v8 wc => ∃ (kq : Nat) (x8_2 : Bool), v8 = .bool x8_2 ∧ Aside0 (edit_Type.j0 kq a1 x8_2 a0_0 a0_1 l0_2 a0_3 a0_4 a0_5 = some (r1, r2, r3, r4, r5, r6, r7, r8)) ∧ Aside0 (kq ≤ k) ∧ Aside0 (Kd.V k35 35 wc w.heap.size (fun k_ => (P0_2_ k_ ∨ w.heap.size ≤ k_) ∧ k_ ≠ gb172 ∧ k_ ≠ gb173) (.slice A0_2 l0_2.length c0_2) l0_2) ∧ Aside0 (wc.heap[gb172]? = some (.cells #[.int .i64 a0_0, .int .i64 a0_1, (.slice A0_2 l0_2.length c0_2), .int .i64 a0_3, .bool a0_4, .bool a0_5] 24 (0, 0))) ∧ Aside0 (wc.heap[gb173]? = some (.cells #[.int .i64 0, .int .i64 0, (.slice none 0 0), .int .i64 0, .bool false, .bool false] 24 (0, 0))) ∧ Aside0 (Below w.heap.size w wc))
 case first =>
  have H := HC3.out
  clear HC3
  by_cases c6 : a1 = 0
  ·rw [if_pos c6] at H
   have c6b0 : (a1 == 0) = true := beq_iff_eq.mpr c6
   have c6b1 : (a1 != 0) = false := bne_eq_false_iff_eq.mpr c6
   clear c6
   (first | rw [c6b0] | (simp only [i64_w, i32_w]; rw [c6b0]) | skip)
   have H' := Aside0.mk H
   clear H
   go_wp2
   go_meet
   case rel => exact ⟨_, (true), (by first | rfl | (simp; done) | (simp [*]; done)), H', ⟨by first | omega | exact Nat.le_refl _⟩, ⟨by (with_reducible repeat apply pV); exact Kd.V_mono HO0_2.out (fun _ hk => ⟨hk.1.1, ⟨hk.1.2, hk.2⟩⟩)⟩, ⟨by (with_reducible repeat apply pK); exact BK172.out⟩, ⟨by (with_reducible repeat apply pK); exact BK173.out⟩, ⟨bl_⟩⟩
  ·rw [if_neg c6] at H
   have c6b0 : (a1 == 0) = false := beq_eq_false_iff_ne.mpr c6
   have c6b1 : (a1 != 0) = true := bne_iff_ne.mpr c6
   (first | rw [c6b0] | (simp only [i64_w, i32_w]; rw [c6b0]) | skip)
   replace H := Option.bind_eq_some_iff.mp H
   obtain ⟨t174, A70, H⟩ := H
   replace H : (edit_Type.j0 k a1 (!t174) a0_0 a0_1 l0_2 a0_3 a0_4 a0_5) = some (r1, r2, r3, r4, r5, r6, r7, r8) := H
   have A7 := Aside0.mk A70
   clear A70
   have H' := Aside0.mk H
   clear H
   go_wp2_with (first | (go_at_call 53; (with_reducible refine (attr_Char.calls a1 t174 _ A7.out).mono ?_); rintro e w' ⟨rfl, ⟨nd, rfl⟩⟩))
   go_meet
   case rel => exact ⟨_, (!t174), (by first | rfl | (simp; done) | (simp [*]; done)), H', ⟨by first | omega | exact Nat.le_refl _⟩, ⟨by (with_reducible repeat apply pV); exact Kd.V_mono HO0_2.out (fun _ hk => ⟨hk.1.1, ⟨hk.1.2, hk.2⟩⟩)⟩, ⟨by (with_reducible repeat apply pK); exact BK172.out⟩, ⟨by (with_reducible repeat apply pK); exact BK173.out⟩, ⟨bl_⟩⟩
 case rest =>
  clear HC3
  try clear p2
  try clear c3
  try clear c6
  try clear c6b0
  try clear c6b1
  obtain ⟨kq, x8_2, rfl, HA, HJ2, HO_173002, BK172, BK173, HB⟩ := hcut
  cases kq with
  | zero => exact absurd HA.out (by simp [edit_Type.j0])
  | succ kj2 =>
   have H := HA.out
   clear HA
   simp only [edit_Type.j0] at H
   by_cases c8 : x8_2 = true
   ·subst c8
    have H1 : (some (a0_0, a0_1, l0_2, a0_3, a0_4, a0_5, some (Er.num 3), ([] : List (S164)))) = some (r1, r2, r3, r4, r5, r6, r7, r8) := by rw [if_pos rfl] at H; exact H
    clear H
    have H := H1
    clear H1
    simp only [Option.some.injEq, Prod.mk.injEq] at H
    obtain ⟨rfl, rfl, rfl, rfl, rfl, rfl, rfl, rfl⟩ := H
    have hnb9 := NB172_173.out
    have hnc9 := NB173_172.out
    obtain ⟨hcz10_0, hcz10_1, hcz10_2, hcz10_3, hcz10_4, hcz10_5, hfz10_0, hfz10_1, hfz10_2, hfz10_3, hfz10_4, hfz10_5⟩ := cells6 (show wc.heap[gb172]? = some (.cells #[.int .i64 a0_0, .int .i64 a0_1, .slice A0_2 l0_2.length c0_2, .int .i64 a0_3, .bool a0_4, .bool a0_5] _ (0, 0)) from BK172.out)
    obtain ⟨hcz11_0, hcz11_1, hcz11_2, hcz11_3, hcz11_4, hcz11_5, hfz11_0, hfz11_1, hfz11_2, hfz11_3, hfz11_4, hfz11_5⟩ := cells6 (show wc.heap[gb173]? = some (.cells #[.int .i64 0, .int .i64 0, .slice none 0 0, .int .i64 0, .bool false, .bool false] _ (0, 0)) from BK173.out)
    go_wp2
    refine bodyPost_ret (results_ct rfl _ _ gb173 24 #[.int .i64 a0_0, .int .i64 a0_1, .slice A0_2 l0_2.length c0_2, .int .i64 a0_3, .bool a0_4, .bool a0_5] (0, 0) _ rfl (by (with_reducible repeat apply pK); refine blk_put (cs := #[.int .i64 a0_0, .int .i64 a0_1, .slice A0_2 l0_2.length c0_2, .int .i64 a0_3, .bool a0_4, .bool false]) ?_ 5 _ rfl; (with_reducible repeat apply pK); refine blk_put (cs := #[.int .i64 a0_0, .int .i64 a0_1, .slice A0_2 l0_2.length c0_2, .int .i64 a0_3, .bool false, .bool false]) ?_ 4 _ rfl; (with_reducible repeat apply pK); refine blk_put (cs := #[.int .i64 a0_0, .int .i64 a0_1, .slice A0_2 l0_2.length c0_2, .int .i64 0, .bool false, .bool false]) ?_ 3 _ rfl; (with_reducible repeat apply pK); refine blk_put (cs := #[.int .i64 a0_0, .int .i64 a0_1, .slice none 0 0, .int .i64 0, .bool false, .bool false]) ?_ 2 _ rfl; (with_reducible repeat apply pK); refine blk_put (cs := #[.int .i64 a0_0, .int .i64 0, .slice none 0 0, .int .i64 0, .bool false, .bool false]) ?_ 1 _ rfl; (with_reducible repeat apply pK); refine blk_put (cs := #[.int .i64 0, .int .i64 0, .slice none 0 0, .int .i64 0, .bool false, .bool false]) ?_ 0 _ rfl; (with_reducible repeat apply pK); exact BK173.out) Tryd.underlying24 rfl (by kernel_rfl)) rfl ?_
    exact ⟨_, _, by first | rfl | (simp [errW_none, errW_some] <;> rfl) | (simp [*, errW_none, errW_some] <;> rfl), by (with_reducible repeat apply pV); exact Kd.V_mono (Kd.V_far (p := ⟨gb173, 5, none⟩) (Kd.V_far (p := ⟨gb173, 4, none⟩) (Kd.V_far (p := ⟨gb173, 3, none⟩) (Kd.V_far (p := ⟨gb173, 2, none⟩) (Kd.V_far (p := ⟨gb173, 1, none⟩) (Kd.V_far (p := ⟨gb173, 0, none⟩) (Kd.V_mono HO_173002.out (fun k_ hk => (⟨hk, hk.2.2⟩ : _ ∧ k_ ≠ gb173))) (fun _ hk => hk.2) (.int .i64 a0_0)) (fun _ hk => hk.2) (.int .i64 a0_1)) (fun _ hk => hk.2) (.slice A0_2 l0_2.length c0_2)) (fun _ hk => hk.2) (.int .i64 a0_3)) (fun _ hk => hk.2) (.bool a0_4)) (fun _ hk => hk.2) (.bool a0_5)) (fun _ hk => hk.1.1), Kd.R_V (Kd.R_nil _ _ _ 0 _), bl_⟩
   ·replace c8 := Bool.eq_false_iff.mpr c8
    subst c8
    have H1 : (if a0_4 = true then (some (a0_0, a0_1, l0_2, a0_3, a0_4, a0_5, some (Er.num 7), ([] : List (S164)))) else ((edit_fits.f kj2 a0_0 a0_1 l0_2 a0_3 a0_4 a0_5 a1).bind fun bt175 => (if bt175.1.isNone = true then ((edit_Modify.f a0_0 a0_1 l0_2 a0_3 a0_4 a0_5 a0_3).bind fun bt180 => (if a0_5 = true then ((edit_Line.f kj2 a0_0 a0_1 l0_2 a0_3 a0_4 a0_5 a0_3).bind fun t189 => ((edit_pushed.f kj2 bt180.1 bt180.2.1 bt180.2.2.1 bt180.2.2.2.1 bt180.2.2.2.2.1 bt180.2.2.2.2.2 t189).bind fun bt192 => (edit_Type.j1 kj2 a1 (!bt192.1) a0_0 a0_1 l0_2 a0_3 a0_4 a0_5 bt180.1 bt180.2.1 bt192.2 bt180.2.2.2.1 bt180.2.2.2.2.1 bt180.2.2.2.2.2))) else (edit_Type.j1 kj2 a1 false a0_0 a0_1 l0_2 a0_3 a0_4 a0_5 bt180.1 bt180.2.1 bt180.2.2.1 bt180.2.2.2.1 bt180.2.2.2.2.1 bt180.2.2.2.2.2))) else ((edit_Deny.f a0_0 a0_1 l0_2 a0_3 a0_4 a0_5 (some (bt175.1.getD ez)) bt175.2).bind fun bt208 => (some (bt208.1, bt208.2.1, bt208.2.2.1, bt208.2.2.2.1, bt208.2.2.2.2.1, bt208.2.2.2.2.2.1, bt208.2.2.2.2.2.2.1, bt208.2.2.2.2.2.2.2)))))) = some (r1, r2, r3, r4, r5, r6, r7, r8) := by rw [if_neg (show ¬ (false = true) by decide)] at H; exact H
    clear H
    have H := H1
    clear H1
    by_cases c12 : a0_4 = true
    ·subst c12
     have H1 : (some (a0_0, a0_1, l0_2, a0_3, true, a0_5, some (Er.num 7), ([] : List (S164)))) = some (r1, r2, r3, r4, r5, r6, r7, r8) := by rw [if_pos rfl] at H; exact H
     clear H
     have H := H1
     clear H1
     simp only [Option.some.injEq, Prod.mk.injEq] at H
     obtain ⟨rfl, rfl, rfl, rfl, rfl, rfl, rfl, rfl⟩ := H
     have hnb13 := NB172_173.out
     have hnc13 := NB173_172.out
     obtain ⟨hcz14_0, hcz14_1, hcz14_2, hcz14_3, hcz14_4, hcz14_5, hfz14_0, hfz14_1, hfz14_2, hfz14_3, hfz14_4, hfz14_5⟩ := cells6 (show wc.heap[gb172]? = some (.cells #[.int .i64 a0_0, .int .i64 a0_1, .slice A0_2 l0_2.length c0_2, .int .i64 a0_3, .bool true, .bool a0_5] _ (0, 0)) from BK172.out)
     obtain ⟨hcz15_0, hcz15_1, hcz15_2, hcz15_3, hcz15_4, hcz15_5, hfz15_0, hfz15_1, hfz15_2, hfz15_3, hfz15_4, hfz15_5⟩ := cells6 (show wc.heap[gb173]? = some (.cells #[.int .i64 0, .int .i64 0, .slice none 0 0, .int .i64 0, .bool false, .bool false] _ (0, 0)) from BK173.out)
     go_wp2
     refine bodyPost_ret (results_ct rfl _ _ gb173 24 #[.int .i64 a0_0, .int .i64 a0_1, .slice A0_2 l0_2.length c0_2, .int .i64 a0_3, .bool true, .bool a0_5] (0, 0) _ rfl (by (with_reducible repeat apply pK); refine blk_put (cs := #[.int .i64 a0_0, .int .i64 a0_1, .slice A0_2 l0_2.length c0_2, .int .i64 a0_3, .bool true, .bool false]) ?_ 5 _ rfl; (with_reducible repeat apply pK); refine blk_put (cs := #[.int .i64 a0_0, .int .i64 a0_1, .slice A0_2 l0_2.length c0_2, .int .i64 a0_3, .bool false, .bool false]) ?_ 4 _ rfl; (with_reducible repeat apply pK); refine blk_put (cs := #[.int .i64 a0_0, .int .i64 a0_1, .slice A0_2 l0_2.length c0_2, .int .i64 0, .bool false, .bool false]) ?_ 3 _ rfl; (with_reducible repeat apply pK); refine blk_put (cs := #[.int .i64 a0_0, .int .i64 a0_1, .slice none 0 0, .int .i64 0, .bool false, .bool false]) ?_ 2 _ rfl; (with_reducible repeat apply pK); refine blk_put (cs := #[.int .i64 a0_0, .int .i64 0, .slice none 0 0, .int .i64 0, .bool false, .bool false]) ?_ 1 _ rfl; (with_reducible repeat apply pK); refine blk_put (cs := #[.int .i64 0, .int .i64 0, .slice none 0 0, .int .i64 0, .bool false, .bool false]) ?_ 0 _ rfl; (with_reducible repeat apply pK); exact BK173.out) Tryd.underlying24 rfl (by kernel_rfl)) rfl ?_
     exact ⟨_, _, by first | rfl | (simp [errW_none, errW_some] <;> rfl) | (simp [*, errW_none, errW_some] <;> rfl), by (with_reducible repeat apply pV); exact Kd.V_mono (Kd.V_far (p := ⟨gb173, 5, none⟩) (Kd.V_far (p := ⟨gb173, 4, none⟩) (Kd.V_far (p := ⟨gb173, 3, none⟩) (Kd.V_far (p := ⟨gb173, 2, none⟩) (Kd.V_far (p := ⟨gb173, 1, none⟩) (Kd.V_far (p := ⟨gb173, 0, none⟩) (Kd.V_mono HO_173002.out (fun k_ hk => (⟨hk, hk.2.2⟩ : _ ∧ k_ ≠ gb173))) (fun _ hk => hk.2) (.int .i64 a0_0)) (fun _ hk => hk.2) (.int .i64 a0_1)) (fun _ hk => hk.2) (.slice A0_2 l0_2.length c0_2)) (fun _ hk => hk.2) (.int .i64 a0_3)) (fun _ hk => hk.2) (.bool true)) (fun _ hk => hk.2) (.bool a0_5)) (fun _ hk => hk.1.1), Kd.R_V (Kd.R_nil _ _ _ 0 _), bl_⟩
    ·replace c12 := Bool.eq_false_iff.mpr c12
     subst c12
     have H1 : ((edit_fits.f kj2 a0_0 a0_1 l0_2 a0_3 false a0_5 a1).bind fun bt175 => (if bt175.1.isNone = true then ((edit_Modify.f a0_0 a0_1 l0_2 a0_3 false a0_5 a0_3).bind fun bt180 => (if a0_5 = true then ((edit_Line.f kj2 a0_0 a0_1 l0_2 a0_3 false a0_5 a0_3).bind fun t189 => ((edit_pushed.f kj2 bt180.1 bt180.2.1 bt180.2.2.1 bt180.2.2.2.1 bt180.2.2.2.2.1 bt180.2.2.2.2.2 t189).bind fun bt192 => (edit_Type.j1 kj2 a1 (!bt192.1) a0_0 a0_1 l0_2 a0_3 false a0_5 bt180.1 bt180.2.1 bt192.2 bt180.2.2.2.1 bt180.2.2.2.2.1 bt180.2.2.2.2.2))) else (edit_Type.j1 kj2 a1 false a0_0 a0_1 l0_2 a0_3 false a0_5 bt180.1 bt180.2.1 bt180.2.2.1 bt180.2.2.2.1 bt180.2.2.2.2.1 bt180.2.2.2.2.2))) else ((edit_Deny.f a0_0 a0_1 l0_2 a0_3 false a0_5 (some (bt175.1.getD ez)) bt175.2).bind fun bt208 => (some (bt208.1, bt208.2.1, bt208.2.2.1, bt208.2.2.2.1, bt208.2.2.2.2.1, bt208.2.2.2.2.2.1, bt208.2.2.2.2.2.2.1, bt208.2.2.2.2.2.2.2))))) = some (r1, r2, r3, r4, r5, r6, r7, r8) := by rw [if_neg (show ¬ (false = true) by decide)] at H; exact H
     clear H
     have H := H1
     clear H1
     replace H := Option.bind_eq_some_iff.mp H
     obtain ⟨⟨t175, t176⟩, A160, H⟩ := H
     replace H : (if t175.isNone = true then ((edit_Modify.f a0_0 a0_1 l0_2 a0_3 false a0_5 a0_3).bind fun bt180 => (if a0_5 = true then ((edit_Line.f kj2 a0_0 a0_1 l0_2 a0_3 false a0_5 a0_3).bind fun t189 => ((edit_pushed.f kj2 bt180.1 bt180.2.1 bt180.2.2.1 bt180.2.2.2.1 bt180.2.2.2.2.1 bt180.2.2.2.2.2 t189).bind fun bt192 => (edit_Type.j1 kj2 a1 (!bt192.1) a0_0 a0_1 l0_2 a0_3 false a0_5 bt180.1 bt180.2.1 bt192.2 bt180.2.2.2.1 bt180.2.2.2.2.1 bt180.2.2.2.2.2))) else (edit_Type.j1 kj2 a1 false a0_0 a0_1 l0_2 a0_3 false a0_5 bt180.1 bt180.2.1 bt180.2.2.1 bt180.2.2.2.1 bt180.2.2.2.2.1 bt180.2.2.2.2.2))) else ((edit_Deny.f a0_0 a0_1 l0_2 a0_3 false a0_5 (some (t175.getD ez)) t176).bind fun bt208 => (some (bt208.1, bt208.2.1, bt208.2.2.1, bt208.2.2.2.1, bt208.2.2.2.2.1, bt208.2.2.2.2.2.1, bt208.2.2.2.2.2.2.1, bt208.2.2.2.2.2.2.2)))) = some (r1, r2, r3, r4, r5, r6, r7, r8) := H
     have A16 := Aside0.mk A160
     clear A160
     rcases t175 with _ | q179
     ·have H1 : ((edit_Modify.f a0_0 a0_1 l0_2 a0_3 false a0_5 a0_3).bind fun bt180 => (if a0_5 = true then ((edit_Line.f kj2 a0_0 a0_1 l0_2 a0_3 false a0_5 a0_3).bind fun t189 => ((edit_pushed.f kj2 bt180.1 bt180.2.1 bt180.2.2.1 bt180.2.2.2.1 bt180.2.2.2.2.1 bt180.2.2.2.2.2 t189).bind fun bt192 => (edit_Type.j1 kj2 a1 (!bt192.1) a0_0 a0_1 l0_2 a0_3 false a0_5 bt180.1 bt180.2.1 bt192.2 bt180.2.2.2.1 bt180.2.2.2.2.1 bt180.2.2.2.2.2))) else (edit_Type.j1 kj2 a1 false a0_0 a0_1 l0_2 a0_3 false a0_5 bt180.1 bt180.2.1 bt180.2.2.1 bt180.2.2.2.1 bt180.2.2.2.2.1 bt180.2.2.2.2.2))) = some (r1, r2, r3, r4, r5, r6, r7, r8) := by rw [if_pos (show (none : Option Er).isNone = true by rfl)] at H; exact H
      clear H
      have H := H1
      clear H1
      try simp only [errW_none, errW_some]
      replace H := Option.bind_eq_some_iff.mp H
      obtain ⟨⟨t180, t181, t182, t185, t186, t187⟩, A170, H⟩ := H
      replace H : (if a0_5 = true then ((edit_Line.f kj2 a0_0 a0_1 l0_2 a0_3 false a0_5 a0_3).bind fun t189 => ((edit_pushed.f kj2 t180 t181 t182 t185 t186 t187 t189).bind fun bt192 => (edit_Type.j1 kj2 a1 (!bt192.1) a0_0 a0_1 l0_2 a0_3 false a0_5 t180 t181 bt192.2 t185 t186 t187))) else (edit_Type.j1 kj2 a1 false a0_0 a0_1 l0_2 a0_3 false a0_5 t180 t181 t182 t185 t186 t187)) = some (r1, r2, r3, r4, r5, r6, r7, r8) := H
      have A17 := Aside0.mk A170
      clear A170
      have HC18 := Aside0.mk H
      clear H
      have hnb19 := NB172_173.out
      have hnc19 := NB173_172.out
      obtain ⟨hcz20_0, hcz20_1, hcz20_2, hcz20_3, hcz20_4, hcz20_5, hfz20_0, hfz20_1, hfz20_2, hfz20_3, hfz20_4, hfz20_5⟩ := cells6 (show wc.heap[gb172]? = some (.cells #[.int .i64 a0_0, .int .i64 a0_1, .slice A0_2 l0_2.length c0_2, .int .i64 a0_3, .bool false, .bool a0_5] _ (0, 0)) from BK172.out)
      go_upto_region 9 with (first | ((with_reducible refine gate_callee (f := 54) rfl ?_); refine goesL_ (some 25) rfl rfl Tryd.func54 (by kernel_rfl) rfl #[.agg #[.int .i64 a0_0, .int .i64 a0_1, .slice A0_2 l0_2.length c0_2, .int .i64 a0_3, .bool false, .bool a0_5], .int .u8 a1] rfl ag_ ?_; (with_reducible refine (edit_fits.calls kj2 a0_0 a0_1 _ _ l0_2 a0_3 false a0_5 a1 none t176 _ ?side1 ?side2 A16.out).mono ?_); (case side1 => repeat (first | exact (Kd.V_reads' HO_173002.out).2.2 | (with_reducible apply pC))); (case side2 => exact (Kd.V_reads' HO_173002.out).2.1); rintro e w21 ⟨v177, rfl, ho0, hb⟩; refine ⟨_, rfl, ?_⟩; have n0_ := Aside0.mk (Kd.V_below (by (with_reducible repeat apply pV); exact HO_173002.out) hb); have n1_ := Aside0.mk (Kd.V_lower (Kd.V_mono (ok' := fun k_ => (P0_2_ k_ ∨ w.heap.size ≤ k_) ∧ k_ ≠ gb172 ∧ k_ ≠ gb173) ho0 (fun k_ hk_ => ⟨(.inr (Nat.le_trans (below_size bl_) hk_)), (Kd.freshB (g := gb172) (o := .cells #[.int .i64 a0_0, .int .i64 a0_1, .slice A0_2 l0_2.length c0_2, .int .i64 a0_3, .bool false, .bool a0_5] 24 (0, 0)) (by (with_reducible repeat apply pK); exact BK172.out) k_ hk_), (Kd.freshB (g := gb173) (o := .cells #[.int .i64 0, .int .i64 0, .slice none 0 0, .int .i64 0, .bool false, .bool false] 24 (0, 0)) (by (with_reducible repeat apply pK); exact BK173.out) k_ hk_)⟩)) (below_size bl_)); have n2_ := Aside0.mk (blk_below (g := gb172) (o := .cells #[.int .i64 a0_0, .int .i64 a0_1, .slice A0_2 l0_2.length c0_2, .int .i64 a0_3, .bool false, .bool a0_5] 24 (0, 0)) (by (with_reducible repeat apply pK); exact BK172.out) hb); have n3_ := Aside0.mk (blk_below (g := gb173) (o := .cells #[.int .i64 0, .int .i64 0, .slice none 0 0, .int .i64 0, .bool false, .bool false] 24 (0, 0)) (by (with_reducible repeat apply pK); exact BK173.out) hb); have n4_ := Aside0.mk (below_step bl_ hb); clear HO_173002; clear BK172; clear BK173; clear HB; have HO_173002 := n0_; have HO178 := n1_; have BK172 := n2_; have BK173 := n3_; have HB := n4_; clear n0_ n1_ n2_ n3_ n4_; (try clear hb); (try clear hb2); (try clear hk); (try clear hi); (try clear ho0); (try simp only [errW_none, errW_some]); obtain ⟨hcz22_0, hcz22_1, hcz22_2, hcz22_3, hcz22_4, hcz22_5, hfz22_0, hfz22_1, hfz22_2, hfz22_3, hfz22_4, hfz22_5⟩ := cells6 (show w21.heap[gb172]? = some (.cells #[.int .i64 a0_0, .int .i64 a0_1, .slice A0_2 l0_2.length c0_2, .int .i64 a0_3, .bool false, .bool a0_5] _ (0, 0)) from BK172.out)) | ((with_reducible refine gate_callee (f := 36) rfl ?_); refine goesL_ (some 36) rfl rfl Tryd.func36 (by kernel_rfl) rfl #[.agg #[.int .i64 a0_0, .int .i64 a0_1, .slice A0_2 l0_2.length c0_2, .int .i64 a0_3, .bool false, .bool a0_5], .int .i64 a0_3] rfl ag_ ?_; (with_reducible refine (edit_Modify.calls a0_0 a0_1 _ _ l0_2 a0_3 false a0_5 a0_3 t180 t181 t182 t185 t186 t187 _ ?side1 ?side2 A17.out).mono ?_); (case side1 => repeat (first | exact (Kd.V_reads' HO_173002.out).2.2 | (with_reducible apply pC))); (case side2 => exact (Kd.V_reads' HO_173002.out).2.1); rintro e w23 ⟨v183, rfl, ho0, hb⟩; refine ⟨_, rfl, ?_⟩; have n0_ := Aside0.mk (Kd.V_elder' (by (with_reducible repeat apply pV); exact HO_173002.out) (Kd.R_base ho0) hb); have n1_ := Aside0.mk (Kd.V_elder' (by (with_reducible repeat apply pV); exact HO178.out) (Kd.R_base ho0) hb); have n2_ := Aside0.mk (Kd.R_lower (Kd.R_newM (M := fun k_ => (w.heap.size ≤ k_)) ho0 (below_size bl_) (fun k_ h_ => h_)) (below_size bl_)); have n3_ := Aside0.mk (blk_below (g := gb172) (o := .cells #[.int .i64 a0_0, .int .i64 a0_1, .slice A0_2 l0_2.length c0_2, .int .i64 a0_3, .bool false, .bool a0_5] 24 (0, 0)) (by (with_reducible repeat apply pK); exact BK172.out) hb); have n4_ := Aside0.mk (blk_below (g := gb173) (o := .cells #[.int .i64 0, .int .i64 0, .slice none 0 0, .int .i64 0, .bool false, .bool false] 24 (0, 0)) (by (with_reducible repeat apply pK); exact BK173.out) hb); have n5_ := Aside0.mk (below_step bl_ hb); clear HO_173002; clear HO178; clear BK172; clear BK173; clear HB; have HO_173002 := n0_; have HO178 := n1_; have HO184 := n2_; have BK172 := n3_; have BK173 := n4_; have HB := n5_; clear n0_ n1_ n2_ n3_ n4_ n5_; (try clear hb); (try clear hb2); (try clear hk); (try clear hi); (try clear ho0)) | ((with_reducible refine gate_dst (N := 7) rfl ?_); refine box_event ?hg (N := 7) ?hd (cs := #[.int .i64 0, .int .i64 0, .slice none 0 0, .int .i64 0, .bool false, .bool false]) (t := 24) ?hr ?_; (case hd => rfl); (case hg => rfl); (case hr => first | (go_simp; done) | (go_simp; rfl)); intro gb188 hg w24 hbox hb; have n0_ := Aside0.mk (Kd.V_below (Kd.V_elderB (by (with_reducible repeat apply pV); exact HO_173002.out) gb188 (Nat.le_of_eq hg.symm)) hb); have n1_ := Aside0.mk (Kd.V_below (Kd.V_elderB (by (with_reducible repeat apply pV); exact HO178.out) gb188 (Nat.le_of_eq hg.symm)) hb); have n2_ := Aside0.mk (Kd.R_below (by (with_reducible repeat apply pR); exact HO184.out) hb); have n3_ := Aside0.mk (blk_below (g := gb172) (o := .cells #[.int .i64 a0_0, .int .i64 a0_1, .slice A0_2 l0_2.length c0_2, .int .i64 a0_3, .bool false, .bool a0_5] 24 (0, 0)) (by (with_reducible repeat apply pK); exact BK172.out) hb); have n4_ := Aside0.mk (blk_below (g := gb173) (o := .cells #[.int .i64 0, .int .i64 0, .slice none 0 0, .int .i64 0, .bool false, .bool false] 24 (0, 0)) (by (with_reducible repeat apply pK); exact BK173.out) hb); have n5_ := Aside0.mk (below_step bl_ hb); have n6_ := Aside0.mk (hbox); have n7_ := Aside0.mk ((le_new hg (below_size bl_) : w.heap.size ≤ gb188)); have n8_ := Aside0.mk ((le_new hg (below_size bl_) : w.heap.size ≤ gb188)); have n9_ := Aside0.mk ((by rw [hg]; exact Nat.ne_of_lt (blk_lt (g := gb172) (o := .cells #[.int .i64 a0_0, .int .i64 a0_1, .slice A0_2 l0_2.length c0_2, .int .i64 a0_3, .bool false, .bool a0_5] 24 (0, 0)) (by (with_reducible repeat apply pK); exact BK172.out)) : gb172 ≠ gb188)); have n10_ := Aside0.mk ((by rw [hg]; exact Nat.ne_of_gt (blk_lt (g := gb172) (o := .cells #[.int .i64 a0_0, .int .i64 a0_1, .slice A0_2 l0_2.length c0_2, .int .i64 a0_3, .bool false, .bool a0_5] 24 (0, 0)) (by (with_reducible repeat apply pK); exact BK172.out)) : gb188 ≠ gb172)); have n11_ := Aside0.mk ((by rw [hg]; exact Nat.ne_of_lt (blk_lt (g := gb173) (o := .cells #[.int .i64 0, .int .i64 0, .slice none 0 0, .int .i64 0, .bool false, .bool false] 24 (0, 0)) (by (with_reducible repeat apply pK); exact BK173.out)) : gb173 ≠ gb188)); have n12_ := Aside0.mk ((by rw [hg]; exact Nat.ne_of_gt (blk_lt (g := gb173) (o := .cells #[.int .i64 0, .int .i64 0, .slice none 0 0, .int .i64 0, .bool false, .bool false] 24 (0, 0)) (by (with_reducible repeat apply pK); exact BK173.out)) : gb188 ≠ gb173)); clear HO_173002; clear HO178; clear HO184; clear BK172; clear BK173; clear HB; have HO_173002 := n0_; have HO178 := n1_; have HO184 := n2_; have BK172 := n3_; have BK173 := n4_; have HB := n5_; have BK188 := n6_; have GW188 := n7_; have GE188 := n8_; have NB172_188 := n9_; have NB188_172 := n10_; have NB173_188 := n11_; have NB188_173 := n12_; clear n0_ n1_ n2_ n3_ n4_ n5_ n6_ n7_ n8_ n9_ n10_ n11_ n12_; clear hb hbox hg; have hnb25 := NB188_172.out; have hnc25 := NB172_188.out; have hnb26 := NB188_173.out; have hnc26 := NB173_188.out; obtain ⟨hcz27_0, hcz27_1, hcz27_2, hcz27_3, hcz27_4, hcz27_5, hfz27_0, hfz27_1, hfz27_2, hfz27_3, hfz27_4, hfz27_5⟩ := cells6 (show w24.heap[gb188]? = some (.cells #[.int .i64 0, .int .i64 0, .slice none 0 0, .int .i64 0, .bool false, .bool false] _ (0, 0)) from BK188.out); obtain ⟨Ao28, co28, eo28⟩ := Kd.R_slice HO184.out; subst eo28))
      (try simp only [Act.put, List.setIfInBounds_toArray, List.set_cons_zero, List.set_cons_succ])
      go_cut [47] (fun v47 wc => ∃ (kq : Nat) (x47_17 : Bool) (x173002_17 : List (S35)) (x189002_17 : List (S35)) (u173002 : Value) (u189002 : Value), v47 = .bool x47_17 ∧ Aside0 (edit_Type.j1 kq a1 x47_17 a0_0 a0_1 x173002_17 a0_3 false a0_5 t180 t181 x189002_17 t185 t186 t187 = some (r1, r2, r3, r4, r5, r6, r7, r8)) ∧ Aside0 (kq ≤ kj2) ∧ Aside0 (Kd.V k35 35 wc w.heap.size (fun k_ => (P0_2_ k_ ∨ w.heap.size ≤ k_) ∧ some k_ ≠ (u189002 : Value).ownBlock ∧ k_ ≠ gb172 ∧ k_ ≠ gb173 ∧ k_ ≠ gb188) u173002 x173002_17) ∧ Aside0 (Kd.R k35 35 wc w.heap.size (fun k_ => (w.heap.size ≤ k_)) u189002 x189002_17) ∧ Aside0 (wc.heap[gb172]? = some (.cells #[.int .i64 a0_0, .int .i64 a0_1, u173002, .int .i64 a0_3, .bool false, .bool a0_5] 24 (0, 0))) ∧ Aside0 (wc.heap[gb173]? = some (.cells #[.int .i64 0, .int .i64 0, (.slice none 0 0), .int .i64 0, .bool false, .bool false] 24 (0, 0))) ∧ Aside0 (wc.heap[gb188]? = some (.cells #[.int .i64 t180, .int .i64 t181, u189002, .int .i64 t185, .bool t186, .bool t187] 24 (0, 0))) ∧ Aside0 (Below w.heap.size w wc))
      case first =>
       have H := HC18.out
       clear HC18
       by_cases c29 : a0_5 = true
       ·subst c29
        have H1 : ((edit_Line.f kj2 a0_0 a0_1 l0_2 a0_3 false true a0_3).bind fun t189 => ((edit_pushed.f kj2 t180 t181 t182 t185 t186 t187 t189).bind fun bt192 => (edit_Type.j1 kj2 a1 (!bt192.1) a0_0 a0_1 l0_2 a0_3 false true t180 t181 bt192.2 t185 t186 t187))) = some (r1, r2, r3, r4, r5, r6, r7, r8) := by rw [if_pos rfl] at H; exact H
        clear H
        have H := H1
        clear H1
        replace H := Option.bind_eq_some_iff.mp H
        obtain ⟨t189, A300, H⟩ := H
        replace H : ((edit_pushed.f kj2 t180 t181 t182 t185 t186 t187 t189).bind fun bt192 => (edit_Type.j1 kj2 a1 (!bt192.1) a0_0 a0_1 l0_2 a0_3 false true t180 t181 bt192.2 t185 t186 t187)) = some (r1, r2, r3, r4, r5, r6, r7, r8) := H
        have A30 := Aside0.mk A300
        clear A300
        replace H := Option.bind_eq_some_iff.mp H
        obtain ⟨⟨t192, t193⟩, A310, H⟩ := H
        replace H : (edit_Type.j1 kj2 a1 (!t192) a0_0 a0_1 l0_2 a0_3 false true t180 t181 t193 t185 t186 t187) = some (r1, r2, r3, r4, r5, r6, r7, r8) := H
        have A31 := Aside0.mk A310
        clear A310
        have H' := Aside0.mk H
        clear H
        try go_wp2
        have n0_ : Aside0 (Kd.V k35 35 ((((((w24.setCell ⟨gb188, 0, none⟩ (.int .i64 t180)).setCell ⟨gb188, 1, none⟩ (.int .i64 t181)).setCell ⟨gb188, 2, none⟩ (.slice Ao28 t182.length co28)).setCell ⟨gb188, 3, none⟩ (.int .i64 t185)).setCell ⟨gb188, 4, none⟩ (.bool t186)).setCell ⟨gb188, 5, none⟩ (.bool t187)) w.heap.size (fun k_ => (P0_2_ k_ ∨ w.heap.size ≤ k_) ∧ some k_ ≠ (.slice Ao28 t182.length co28 : Value).ownBlock ∧ k_ ≠ gb172 ∧ k_ ≠ gb173 ∧ k_ ≠ gb188) (.slice A0_2 l0_2.length c0_2) l0_2) := ⟨by (with_reducible repeat apply pV); exact Kd.V_mono (Kd.V_far (p := ⟨gb188, 5, none⟩) (Kd.V_far (p := ⟨gb188, 4, none⟩) (Kd.V_far (p := ⟨gb188, 3, none⟩) (Kd.V_far (p := ⟨gb188, 2, none⟩) (Kd.V_far (p := ⟨gb188, 1, none⟩) (Kd.V_far (p := ⟨gb188, 0, none⟩) (Kd.V_mono HO_173002.out (fun k_ hk => (⟨hk, hk.2⟩ : _ ∧ k_ ≠ gb188))) (fun _ hk => hk.2) (.int .i64 t180)) (fun _ hk => hk.2) (.int .i64 t181)) (fun _ hk => hk.2) (.slice Ao28 t182.length co28)) (fun _ hk => hk.2) (.int .i64 t185)) (fun _ hk => hk.2) (.bool t186)) (fun _ hk => hk.2) (.bool t187)) (fun _ hk => ⟨hk.1.1.1.1, ⟨hk.1.1.2, ⟨hk.1.1.1.2.1, ⟨hk.1.1.1.2.2, hk.1.2⟩⟩⟩⟩)⟩
        have n1_ : Aside0 (Kd.V k164 164 ((((((w24.setCell ⟨gb188, 0, none⟩ (.int .i64 t180)).setCell ⟨gb188, 1, none⟩ (.int .i64 t181)).setCell ⟨gb188, 2, none⟩ (.slice Ao28 t182.length co28)).setCell ⟨gb188, 3, none⟩ (.int .i64 t185)).setCell ⟨gb188, 4, none⟩ (.bool t186)).setCell ⟨gb188, 5, none⟩ (.bool t187)) w.heap.size (fun k_ => (P0_2_ k_ ∨ w.heap.size ≤ k_) ∧ some k_ ≠ (.slice Ao28 t182.length co28 : Value).ownBlock ∧ k_ ≠ gb172 ∧ k_ ≠ gb173 ∧ k_ ≠ gb188) v177 t176) := ⟨by (with_reducible repeat apply pV); exact Kd.V_mono (Kd.V_far (p := ⟨gb188, 5, none⟩) (Kd.V_far (p := ⟨gb188, 4, none⟩) (Kd.V_far (p := ⟨gb188, 3, none⟩) (Kd.V_far (p := ⟨gb188, 2, none⟩) (Kd.V_far (p := ⟨gb188, 1, none⟩) (Kd.V_far (p := ⟨gb188, 0, none⟩) (Kd.V_mono HO178.out (fun k_ hk => (⟨hk, hk.2⟩ : _ ∧ k_ ≠ gb188))) (fun _ hk => hk.2) (.int .i64 t180)) (fun _ hk => hk.2) (.int .i64 t181)) (fun _ hk => hk.2) (.slice Ao28 t182.length co28)) (fun _ hk => hk.2) (.int .i64 t185)) (fun _ hk => hk.2) (.bool t186)) (fun _ hk => hk.2) (.bool t187)) (fun _ hk => ⟨hk.1.1.1.1, ⟨hk.1.1.2, ⟨hk.1.1.1.2.1, ⟨hk.1.1.1.2.2, hk.1.2⟩⟩⟩⟩)⟩
        have n2_ : Aside0 (Kd.R k35 35 ((((((w24.setCell ⟨gb188, 0, none⟩ (.int .i64 t180)).setCell ⟨gb188, 1, none⟩ (.int .i64 t181)).setCell ⟨gb188, 2, none⟩ (.slice Ao28 t182.length co28)).setCell ⟨gb188, 3, none⟩ (.int .i64 t185)).setCell ⟨gb188, 4, none⟩ (.bool t186)).setCell ⟨gb188, 5, none⟩ (.bool t187)) w.heap.size (fun k_ => (w.heap.size ≤ k_)) (.slice Ao28 t182.length co28) t182) := ⟨by (with_reducible repeat apply pR); exact Kd.R_mono (Kd.R_far (p := ⟨gb188, 5, none⟩) (Kd.R_far (p := ⟨gb188, 4, none⟩) (Kd.R_far (p := ⟨gb188, 3, none⟩) (Kd.R_far (p := ⟨gb188, 2, none⟩) (Kd.R_far (p := ⟨gb188, 1, none⟩) (Kd.R_far (p := ⟨gb188, 0, none⟩) (Kd.R_types HO184.out BK188.out (by decide)) (fun _ hk => hk.2) (.int .i64 t180)) (fun _ hk => hk.2) (.int .i64 t181)) (fun _ hk => hk.2) (.slice Ao28 t182.length co28)) (fun _ hk => hk.2) (.int .i64 t185)) (fun _ hk => hk.2) (.bool t186)) (fun _ hk => hk.2) (.bool t187)) (fun _ hk => hk.1.1)⟩
        have n3_ : Aside0 (((((((w24.setCell ⟨gb188, 0, none⟩ (.int .i64 t180)).setCell ⟨gb188, 1, none⟩ (.int .i64 t181)).setCell ⟨gb188, 2, none⟩ (.slice Ao28 t182.length co28)).setCell ⟨gb188, 3, none⟩ (.int .i64 t185)).setCell ⟨gb188, 4, none⟩ (.bool t186)).setCell ⟨gb188, 5, none⟩ (.bool t187)).heap[gb172]? = some (.cells #[.int .i64 a0_0, .int .i64 a0_1, .slice A0_2 l0_2.length c0_2, .int .i64 a0_3, .bool false, .bool true] 24 (0, 0))) := ⟨by (with_reducible repeat apply pK); refine blk_far ?_ NB172_188.out _; (with_reducible repeat apply pK); refine blk_far ?_ NB172_188.out _; (with_reducible repeat apply pK); refine blk_far ?_ NB172_188.out _; (with_reducible repeat apply pK); refine blk_far ?_ NB172_188.out _; (with_reducible repeat apply pK); refine blk_far ?_ NB172_188.out _; (with_reducible repeat apply pK); refine blk_far ?_ NB172_188.out _; (with_reducible repeat apply pK); exact BK172.out⟩
        have n4_ : Aside0 (((((((w24.setCell ⟨gb188, 0, none⟩ (.int .i64 t180)).setCell ⟨gb188, 1, none⟩ (.int .i64 t181)).setCell ⟨gb188, 2, none⟩ (.slice Ao28 t182.length co28)).setCell ⟨gb188, 3, none⟩ (.int .i64 t185)).setCell ⟨gb188, 4, none⟩ (.bool t186)).setCell ⟨gb188, 5, none⟩ (.bool t187)).heap[gb173]? = some (.cells #[.int .i64 0, .int .i64 0, .slice none 0 0, .int .i64 0, .bool false, .bool false] 24 (0, 0))) := ⟨by (with_reducible repeat apply pK); refine blk_far ?_ NB173_188.out _; (with_reducible repeat apply pK); refine blk_far ?_ NB173_188.out _; (with_reducible repeat apply pK); refine blk_far ?_ NB173_188.out _; (with_reducible repeat apply pK); refine blk_far ?_ NB173_188.out _; (with_reducible repeat apply pK); refine blk_far ?_ NB173_188.out _; (with_reducible repeat apply pK); refine blk_far ?_ NB173_188.out _; (with_reducible repeat apply pK); exact BK173.out⟩
        have n5_ : Aside0 (((((((w24.setCell ⟨gb188, 0, none⟩ (.int .i64 t180)).setCell ⟨gb188, 1, none⟩ (.int .i64 t181)).setCell ⟨gb188, 2, none⟩ (.slice Ao28 t182.length co28)).setCell ⟨gb188, 3, none⟩ (.int .i64 t185)).setCell ⟨gb188, 4, none⟩ (.bool t186)).setCell ⟨gb188, 5, none⟩ (.bool t187)).heap[gb188]? = some (.cells #[.int .i64 t180, .int .i64 t181, .slice Ao28 t182.length co28, .int .i64 t185, .bool t186, .bool t187] 24 (0, 0))) := ⟨by (with_reducible repeat apply pK); refine blk_put (cs := #[.int .i64 t180, .int .i64 t181, .slice Ao28 t182.length co28, .int .i64 t185, .bool t186, .bool false]) ?_ 5 _ rfl; (with_reducible repeat apply pK); refine blk_put (cs := #[.int .i64 t180, .int .i64 t181, .slice Ao28 t182.length co28, .int .i64 t185, .bool false, .bool false]) ?_ 4 _ rfl; (with_reducible repeat apply pK); refine blk_put (cs := #[.int .i64 t180, .int .i64 t181, .slice Ao28 t182.length co28, .int .i64 0, .bool false, .bool false]) ?_ 3 _ rfl; (with_reducible repeat apply pK); refine blk_put (cs := #[.int .i64 t180, .int .i64 t181, .slice none 0 0, .int .i64 0, .bool false, .bool false]) ?_ 2 _ rfl; (with_reducible repeat apply pK); refine blk_put (cs := #[.int .i64 t180, .int .i64 0, .slice none 0 0, .int .i64 0, .bool false, .bool false]) ?_ 1 _ rfl; (with_reducible repeat apply pK); refine blk_put (cs := #[.int .i64 0, .int .i64 0, .slice none 0 0, .int .i64 0, .bool false, .bool false]) ?_ 0 _ rfl; (with_reducible repeat apply pK); exact BK188.out⟩
        have n6_ : Aside0 (Below w.heap.size w ((((((w24.setCell ⟨gb188, 0, none⟩ (.int .i64 t180)).setCell ⟨gb188, 1, none⟩ (.int .i64 t181)).setCell ⟨gb188, 2, none⟩ (.slice Ao28 t182.length co28)).setCell ⟨gb188, 3, none⟩ (.int .i64 t185)).setCell ⟨gb188, 4, none⟩ (.bool t186)).setCell ⟨gb188, 5, none⟩ (.bool t187))) := ⟨bl_⟩
        (try clear HO_173002)
        (try clear HO178)
        (try clear HO184)
        (try clear BK172)
        (try clear BK173)
        (try clear BK188)
        (try clear HB)
        generalize ((((((w24.setCell ⟨gb188, 0, none⟩ (.int .i64 t180)).setCell ⟨gb188, 1, none⟩ (.int .i64 t181)).setCell ⟨gb188, 2, none⟩ (.slice Ao28 t182.length co28)).setCell ⟨gb188, 3, none⟩ (.int .i64 t185)).setCell ⟨gb188, 4, none⟩ (.bool t186)).setCell ⟨gb188, 5, none⟩ (.bool t187)) = w32 at n0_ n1_ n2_ n3_ n4_ n5_ n6_ ⊢
        have HO_173002 := n0_
        have HO178 := n1_
        have HO184 := n2_
        have BK172 := n3_
        have BK173 := n4_
        have BK188 := n5_
        have HB := n6_
        clear n0_ n1_ n2_ n3_ n4_ n5_ n6_
        have n0_ := Aside0.mk (Kd.V_drew HO_173002.out)
        have n1_ := Aside0.mk (Kd.V_drew HO178.out)
        have n2_ := Aside0.mk (Kd.R_drew HO184.out)
        have n3_ := Aside0.mk (blk_drew BK172.out)
        have n4_ := Aside0.mk (blk_drew BK173.out)
        have n5_ := Aside0.mk (blk_drew BK188.out)
        have n6_ := Aside0.mk (below_drew1 HB.out)
        clear HO_173002
        clear HO178
        clear HO184
        clear BK172
        clear BK173
        clear BK188
        clear HB
        have HO_173002 := n0_
        have HO178 := n1_
        have HO184 := n2_
        have BK172 := n3_
        have BK173 := n4_
        have BK188 := n5_
        have HB := n6_
        clear n0_ n1_ n2_ n3_ n4_ n5_ n6_
        refine start_ (n := 11) (S := fun w' => w'.cell? ⟨gb172, 0, none⟩ = some (.int .i64 a0_0) ∧ w'.cell? ⟨gb172, 1, none⟩ = some (.int .i64 a0_1) ∧ w'.cell? ⟨gb172, 2, none⟩ = some (.slice A0_2 l0_2.length c0_2) ∧ w'.cell? ⟨gb172, 3, none⟩ = some (.int .i64 a0_3) ∧ w'.cell? ⟨gb172, 4, none⟩ = some (.bool false) ∧ w'.cell? ⟨gb172, 5, none⟩ = some (.bool true) ∧ w'.cell? ⟨gb188, 0, none⟩ = some (.int .i64 t180) ∧ w'.cell? ⟨gb188, 1, none⟩ = some (.int .i64 t181) ∧ w'.cell? ⟨gb188, 2, none⟩ = some (.slice Ao28 t182.length co28) ∧ w'.cell? ⟨gb188, 3, none⟩ = some (.int .i64 t185) ∧ w'.cell? ⟨gb188, 4, none⟩ = some (.bool t186) ∧ w'.cell? ⟨gb188, 5, none⟩ = some (.bool t187)) (ds := []) #[false, false, false, false, false, false, false, false, false, false, false] (by kernel_rfl) rfl rfl ⟨(blk_cell BK172.out 0).trans rfl, (blk_cell BK172.out 1).trans rfl, (blk_cell BK172.out 2).trans rfl, (blk_cell BK172.out 3).trans rfl, (blk_cell BK172.out 4).trans rfl, (blk_cell BK172.out 5).trans rfl, (blk_cell BK188.out 0).trans rfl, (blk_cell BK188.out 1).trans rfl, (blk_cell BK188.out 2).trans rfl, (blk_cell BK188.out 3).trans rfl, (blk_cell BK188.out 4).trans rfl, (blk_cell BK188.out 5).trans rfl⟩ (fun hHeld => ?_); refine with_tabW edit_Type.tab9 edit_Type.bits9 (fun HT_ HW_ => ?_)
        generalize w32.drew = w33 at HO_173002 HO178 HO184 BK172 BK173 BK188 HB hHeld ⊢
        refine pure_ (i := 0) (N := some 37) (v := ?_) (a' := ?_) #[true, false, false, false, false, false, false, false, false, false, false] rfl rfl (any_of HT_.out (by kernel_rfl)) (fun _ _ _ h => h) (Or.inl ⟨by rfl, ?_⟩) ?_ ?_
        rotate_left
        ·intro w'
         go_simp
         with_reducible rfl
        rotate_left
        ·simp only [Act.put, List.setIfInBounds_toArray, List.set_cons_zero, List.set_cons_succ, i64_w, i32_w]
         rfl
        refine take_ (i := 1) (N := some 38) (v := ?_) (a' := ?_) #[true, true, false, false, false, false, false, false, false, false, false] rfl rfl (take_ofW HT_.out HW_.out (by kernel_rfl)) (fun _ _ _ h => h) (Or.inl ⟨by rfl, ?_⟩) hHeld ?_ ?_
        rotate_left
        ·rintro w' ⟨s0, s1, s2, s3, s4, s5, s6, s7, s8, s9, s10, s11⟩
         go_simp
         with_reducible rfl
        rotate_left
        ·simp only [Act.put, List.setIfInBounds_toArray, List.set_cons_zero, List.set_cons_succ, i64_w, i32_w]
         rfl
        refine pure_ (i := 2) (N := some 39) (v := ?_) (a' := ?_) #[true, true, true, false, false, false, false, false, false, false, false] rfl rfl (any_of HT_.out (by kernel_rfl)) (fun _ _ _ h => h) (Or.inl ⟨by rfl, ?_⟩) ?_ ?_
        rotate_left
        ·intro w'
         go_simp
         with_reducible rfl
        rotate_left
        ·simp only [Act.put, List.setIfInBounds_toArray, List.set_cons_zero, List.set_cons_succ, i64_w, i32_w]
         rfl
        refine pure_ (i := 5) (N := some 42) (v := ?_) (a' := ?_) #[true, true, true, false, false, true, false, false, false, false, false] rfl rfl (any_of HT_.out (by kernel_rfl)) (fun _ _ _ h => h) (Or.inl ⟨by rfl, ?_⟩) ?_ ?_
        rotate_left
        ·intro w'
         go_simp
         with_reducible rfl
        rotate_left
        ·simp only [Act.put, List.setIfInBounds_toArray, List.set_cons_zero, List.set_cons_succ, i64_w, i32_w]
         rfl
        refine take_ (i := 3) (N := some 40) (v := ?_) (a' := ?_) #[true, true, true, true, false, true, false, false, false, false, false] rfl rfl (take_ofW HT_.out HW_.out (by kernel_rfl)) (fun _ _ _ h => h) (Or.inl ⟨by rfl, ?_⟩) hHeld ?_ ?_
        rotate_left
        ·rintro w' ⟨s0, s1, s2, s3, s4, s5, s6, s7, s8, s9, s10, s11⟩
         go_simp
         with_reducible rfl
        rotate_left
        ·simp only [Act.put, List.setIfInBounds_toArray, List.set_cons_zero, List.set_cons_succ, i64_w, i32_w]
         rfl
        refine take_ (i := 4) (N := some 41) (v := ?_) (a' := ?_) #[true, true, true, true, true, true, false, false, false, false, false] rfl rfl (take_ofW HT_.out HW_.out (by kernel_rfl)) (fun _ _ _ h => h) (Or.inl ⟨by rfl, ?_⟩) hHeld ?_ ?_
        rotate_left
        ·rintro w' ⟨s0, s1, s2, s3, s4, s5, s6, s7, s8, s9, s10, s11⟩
         go_simp
         with_reducible rfl
        rotate_left
        ·simp only [Act.put, List.setIfInBounds_toArray, List.set_cons_zero, List.set_cons_succ, i64_w, i32_w]
         rfl
        refine take_ (i := 6) (N := some 43) (v := ?_) (a' := ?_) #[true, true, true, true, true, true, true, false, false, false, false] rfl rfl (take_ofW HT_.out HW_.out (by kernel_rfl)) (fun _ _ _ h => h) (Or.inl ⟨by rfl, ?_⟩) hHeld ?_ ?_
        rotate_left
        ·rintro w' ⟨s0, s1, s2, s3, s4, s5, s6, s7, s8, s9, s10, s11⟩
         go_simp
         with_reducible rfl
        rotate_left
        ·simp only [Act.put, List.setIfInBounds_toArray, List.set_cons_zero, List.set_cons_succ, i64_w, i32_w]
         rfl
        refine one_ (i := 7) (N := some 44) #[true, true, true, true, true, true, true, true, false, false, false] rfl rfl (one_of HT_.out (by kernel_rfl)) (by decide) (fun K hK => ?_)
        refine goes_ Tryd.func26 (by kernel_rfl) rfl #[.agg #[.int .i64 a0_0, .int .i64 a0_1, .slice A0_2 l0_2.length c0_2, .int .i64 a0_3, .bool false, .bool true], .int .i64 a0_3] (by rfl) rfl rfl ag_ ?_
        with_reducible refine (edit_Line.calls kj2 a0_0 a0_1 _ _ l0_2 a0_3 false true a0_3 t189 _ ?side1 ?side2 A30.out).mono ?_
        (case side1 => repeat (first | exact (Kd.V_reads' HO_173002.out).2.2 | (with_reducible apply pC)))
        (case side2 => exact (Kd.V_reads' HO_173002.out).2.1)
        rintro e w34 ⟨v190, rfl, ho0, hb⟩
        refine ⟨_, rfl, ?_⟩
        have n0_ := Aside0.mk (Kd.V_elder' (by (with_reducible repeat apply pV); exact HO_173002.out) (Kd.Q_base ho0) hb)
        have n1_ := Aside0.mk (Kd.V_elder' (by (with_reducible repeat apply pV); exact HO178.out) (Kd.Q_base ho0) hb)
        have n2_ := Aside0.mk (Kd.R_below (by (with_reducible repeat apply pR); exact HO184.out) hb)
        have n3_ := Aside0.mk (Kd.Q_lower (Kd.Q_newM (M := fun k_ => (w.heap.size ≤ k_)) ho0 (below_size bl_) (fun k_ h_ => h_)) (below_size bl_))
        have n4_ := Aside0.mk (blk_below (g := gb172) (o := .cells #[.int .i64 a0_0, .int .i64 a0_1, .slice A0_2 l0_2.length c0_2, .int .i64 a0_3, .bool false, .bool true] 24 (0, 0)) (by (with_reducible repeat apply pK); exact BK172.out) hb)
        have n5_ := Aside0.mk (blk_below (g := gb173) (o := .cells #[.int .i64 0, .int .i64 0, .slice none 0 0, .int .i64 0, .bool false, .bool false] 24 (0, 0)) (by (with_reducible repeat apply pK); exact BK173.out) hb)
        have n6_ := Aside0.mk (blk_below (g := gb188) (o := .cells #[.int .i64 t180, .int .i64 t181, .slice Ao28 t182.length co28, .int .i64 t185, .bool t186, .bool t187] 24 (0, 0)) (by (with_reducible repeat apply pK); exact BK188.out) hb)
        have n7_ := Aside0.mk (below_step bl_ hb)
        clear HO_173002
        clear HO178
        clear HO184
        clear BK172
        clear BK173
        clear BK188
        clear HB
        have HO_173002 := n0_
        have HO178 := n1_
        have HO184 := n2_
        have HO191 := n3_
        have BK172 := n4_
        have BK173 := n5_
        have BK188 := n6_
        have HB := n7_
        clear n0_ n1_ n2_ n3_ n4_ n5_ n6_ n7_
        (try clear hb)
        (try clear hb2)
        (try clear hk)
        (try clear hi)
        (try clear ho0)
        obtain ⟨Ao35, co35, eo35, _⟩ := Kd.Q_slice HO191.out
        (first | subst eo35 | (injection eo35 with f1_ f2_ f3_; have f4_ := f1_.symm; have f5_ := f3_.symm; clear f1_ f2_ f3_; subst f4_; subst f5_))
        refine hK.out _ _ ⟨(blk_cell BK172.out 0).trans rfl, (blk_cell BK172.out 1).trans rfl, (blk_cell BK172.out 2).trans rfl, (blk_cell BK172.out 3).trans rfl, (blk_cell BK172.out 4).trans rfl, (blk_cell BK172.out 5).trans rfl, (blk_cell BK188.out 0).trans rfl, (blk_cell BK188.out 1).trans rfl, (blk_cell BK188.out 2).trans rfl, (blk_cell BK188.out 3).trans rfl, (blk_cell BK188.out 4).trans rfl, (blk_cell BK188.out 5).trans rfl⟩ (fun hHeld => ?_)
        clear hK K
        refine norm_ (a' := ?_) ?_ ?_
        rotate_left
        ·show Act.put _ (some 44) _ = _
         simp only [Act.put, List.setIfInBounds_toArray, List.set_cons_zero, List.set_cons_succ, i64_w, i32_w]
         rfl
        refine one_ (i := 8) (N := some 45) #[true, true, true, true, true, true, true, true, true, false, false] rfl rfl (one_of HT_.out (by kernel_rfl)) (by decide) (fun K hK => ?_)
        refine goes_ Tryd.func55 (by kernel_rfl) rfl #[.agg #[.int .i64 t180, .int .i64 t181, .slice Ao28 t182.length co28, .int .i64 t185, .bool t186, .bool t187], .slice Ao35 t189.length co35] (by rfl) rfl rfl ag_ ?_
        with_reducible refine (edit_pushed.calls kj2 t180 t181 (fun k_ => some k_ = (.slice Ao28 t182.length co28 : Value).ownBlock) (.slice Ao28 t182.length co28) t182 t185 t186 t187 _ _ t189 t192 t193 w _ ?side1 ?side2 ?side3 ?side4 A31.out).mono ?_
        (case side1 => repeat (first | (with_reducible first | exact HB.out | apply below_alloc | apply pw_below_drewN | apply below_drew1 | refine below_set ?_ GE172.out | refine below_set ?_ GE173.out | refine below_set ?_ GE188.out) | exact HB.out))
        (case side2 => exact Kd.R_tight rfl HO184.out)
        (case side3 => exact Kd.C_kept_ownQ ((Kd.Q_apart' HO191.out (Kd.R_typed HO184.out) (by decide))) (fun k_ hk_ hs_ => (hk_.2) hs_))
        (case side4 => exact (Kd.Q_reads' HO191.out).2.1)
        rintro e w36 ⟨rfl, hy0, hb, hkp⟩
        refine ⟨_, rfl, ?_⟩
        have n0_ := Aside0.mk (Kd.V_mono (ok' := fun k_ => (P0_2_ k_ ∨ w.heap.size ≤ k_) ∧ some k_ ≠ (.slice Ao28 t182.length co28 : Value).ownBlock ∧ some k_ ≠ (.slice Ao35 t189.length co35 : Value).ownBlock ∧ k_ ≠ gb172 ∧ k_ ≠ gb173 ∧ k_ ≠ gb188) (Kd.V_keptB (HO_173002.out) hkp (fun k_ hk_ hs_ => (hk_.1.2.1) hs_)) (fun k_ hk_ => ⟨hk_.1.1.1, hk_.1.1.2.1, hk_.1.2, hk_.1.1.2.2.1, hk_.1.1.2.2.2.1, hk_.1.1.2.2.2.2⟩))
        have n1_ := Aside0.mk (blk_kept (by (with_reducible repeat apply pK); exact BK172.out) hkp (fun hs_ => (fun e_ => (Kd.R_ne HO184.out BK172.out (by decide)) e_) hs_))
        have n2_ := Aside0.mk (blk_kept (by (with_reducible repeat apply pK); exact BK173.out) hkp (fun hs_ => (fun e_ => (Kd.R_ne HO184.out BK173.out (by decide)) e_) hs_))
        have n3_ := Aside0.mk (Kd.V_mono (ok' := fun k_ => (P0_2_ k_ ∨ w.heap.size ≤ k_) ∧ some k_ ≠ (.slice Ao28 t182.length co28 : Value).ownBlock ∧ some k_ ≠ (.slice Ao35 t189.length co35 : Value).ownBlock ∧ k_ ≠ gb172 ∧ k_ ≠ gb173 ∧ k_ ≠ gb188) (Kd.V_keptB (HO178.out) hkp (fun k_ hk_ hs_ => (hk_.1.2.1) hs_)) (fun k_ hk_ => ⟨hk_.1.1.1, hk_.1.1.2.1, hk_.1.2, hk_.1.1.2.2.1, hk_.1.1.2.2.2.1, hk_.1.1.2.2.2.2⟩))
        have n4_ := Aside0.mk (Kd.R_reok rfl hy0 (fun k_ e_ => HO184.out.1 k_ e_))
        have n5_ := Aside0.mk (blk_kept (by (with_reducible repeat apply pK); exact BK188.out) hkp (fun hs_ => (fun e_ => (Kd.R_ne HO184.out BK188.out (by decide)) e_) hs_))
        have n6_ := Aside0.mk (Kd.Q_mono (ok' := fun k_ => (w.heap.size ≤ k_)) (Kd.Q_keptB ((Kd.Q_apart' HO191.out (Kd.R_typed HO184.out) (by decide))) hkp (fun k_ hk_ hs_ => (hk_.2) hs_)) (fun k_ hk_ => hk_.1.1.1))
        have n7_ := Aside0.mk (hb)
        clear HO_173002
        clear BK172
        clear BK173
        clear HO178
        clear HO184
        clear BK188
        clear HO191
        clear HB
        have HO_173002 := n0_
        have BK172 := n1_
        have BK173 := n2_
        have HO178 := n3_
        have HO184 := n4_
        have BK188 := n5_
        have HO191 := n6_
        have HB := n7_
        clear n0_ n1_ n2_ n3_ n4_ n5_ n6_ n7_
        (try clear hb)
        (try clear hkp)
        (try clear hy0)
        refine hK.out _ _ ⟨(blk_cell BK172.out 0).trans rfl, (blk_cell BK172.out 1).trans rfl, (blk_cell BK172.out 2).trans rfl, (blk_cell BK172.out 3).trans rfl, (blk_cell BK172.out 4).trans rfl, (blk_cell BK172.out 5).trans rfl, (blk_cell BK188.out 0).trans rfl, (blk_cell BK188.out 1).trans rfl, (blk_cell BK188.out 2).trans rfl, (blk_cell BK188.out 3).trans rfl, (blk_cell BK188.out 4).trans rfl, (blk_cell BK188.out 5).trans rfl⟩ (fun hHeld => ?_)
        clear hK K
        refine norm_ (a' := ?_) ?_ ?_
        rotate_left
        ·show Act.put _ (some 45) _ = _
         simp only [Act.put, List.setIfInBounds_toArray, List.set_cons_zero, List.set_cons_succ, i64_w, i32_w]
         rfl
        refine pure_ (i := 9) (N := some 46) (v := ?_) (a' := ?_) #[true, true, true, true, true, true, true, true, true, true, false] rfl rfl (any_of HT_.out (by kernel_rfl)) (fun _ _ _ h => h) (Or.inl ⟨by rfl, ?_⟩) ?_ ?_
        rotate_left
        ·intro w'
         go_simp
         with_reducible rfl
        rotate_left
        ·simp only [Act.put, List.setIfInBounds_toArray, List.set_cons_zero, List.set_cons_succ, i64_w, i32_w]
         rfl
        refine pure_ (i := 10) (N := some 47) (v := ?_) (a' := ?_) #[true, true, true, true, true, true, true, true, true, true, true] rfl rfl (any_of HT_.out (by kernel_rfl)) (fun _ _ _ h => h) (Or.inl ⟨by rfl, ?_⟩) ?_ ?_
        rotate_left
        ·intro w'
         go_simp
         with_reducible rfl
        rotate_left
        ·simp only [Act.put, List.setIfInBounds_toArray, List.set_cons_zero, List.set_cons_succ, i64_w, i32_w]
         rfl
        refine done_ (done_of HT_.out (by kernel_rfl)) ?_
        try go_wp2
        go_meet
        case rel => exact ⟨_, (!t192), (l0_2), (t193), (.slice A0_2 l0_2.length c0_2), (.slice Ao28 t182.length co28), (by first | rfl | (simp; done) | (simp [*]; done)), H', ⟨by have := HJ2.out; first | omega | exact Nat.le_refl _⟩, ⟨by (with_reducible repeat apply pV); exact Kd.V_mono HO_173002.out (fun _ hk => ⟨hk.1, ⟨hk.2.1, ⟨hk.2.2.2.1, ⟨hk.2.2.2.2.1, hk.2.2.2.2.2⟩⟩⟩⟩)⟩, ⟨by (with_reducible repeat apply pR); exact HO184.out⟩, ⟨by (with_reducible repeat apply pK); exact BK172.out⟩, ⟨by (with_reducible repeat apply pK); exact BK173.out⟩, ⟨by (with_reducible repeat apply pK); exact BK188.out⟩, ⟨bl_⟩⟩
       ·replace c29 := Bool.eq_false_iff.mpr c29
        subst c29
        have H1 : (edit_Type.j1 kj2 a1 false a0_0 a0_1 l0_2 a0_3 false false t180 t181 t182 t185 t186 t187) = some (r1, r2, r3, r4, r5, r6, r7, r8) := by rw [if_neg (show ¬ (false = true) by decide)] at H; exact H
        clear H
        have H := H1
        clear H1
        have H' := Aside0.mk H
        clear H
        try go_wp2
        have n0_ : Aside0 (Kd.V k35 35 ((((((w24.setCell ⟨gb188, 0, none⟩ (.int .i64 t180)).setCell ⟨gb188, 1, none⟩ (.int .i64 t181)).setCell ⟨gb188, 2, none⟩ (.slice Ao28 t182.length co28)).setCell ⟨gb188, 3, none⟩ (.int .i64 t185)).setCell ⟨gb188, 4, none⟩ (.bool t186)).setCell ⟨gb188, 5, none⟩ (.bool t187)) w.heap.size (fun k_ => (P0_2_ k_ ∨ w.heap.size ≤ k_) ∧ some k_ ≠ (.slice Ao28 t182.length co28 : Value).ownBlock ∧ k_ ≠ gb172 ∧ k_ ≠ gb173 ∧ k_ ≠ gb188) (.slice A0_2 l0_2.length c0_2) l0_2) := ⟨by (with_reducible repeat apply pV); exact Kd.V_mono (Kd.V_far (p := ⟨gb188, 5, none⟩) (Kd.V_far (p := ⟨gb188, 4, none⟩) (Kd.V_far (p := ⟨gb188, 3, none⟩) (Kd.V_far (p := ⟨gb188, 2, none⟩) (Kd.V_far (p := ⟨gb188, 1, none⟩) (Kd.V_far (p := ⟨gb188, 0, none⟩) (Kd.V_mono HO_173002.out (fun k_ hk => (⟨hk, hk.2⟩ : _ ∧ k_ ≠ gb188))) (fun _ hk => hk.2) (.int .i64 t180)) (fun _ hk => hk.2) (.int .i64 t181)) (fun _ hk => hk.2) (.slice Ao28 t182.length co28)) (fun _ hk => hk.2) (.int .i64 t185)) (fun _ hk => hk.2) (.bool t186)) (fun _ hk => hk.2) (.bool t187)) (fun _ hk => ⟨hk.1.1.1.1, ⟨hk.1.1.2, ⟨hk.1.1.1.2.1, ⟨hk.1.1.1.2.2, hk.1.2⟩⟩⟩⟩)⟩
        have n1_ : Aside0 (Kd.V k164 164 ((((((w24.setCell ⟨gb188, 0, none⟩ (.int .i64 t180)).setCell ⟨gb188, 1, none⟩ (.int .i64 t181)).setCell ⟨gb188, 2, none⟩ (.slice Ao28 t182.length co28)).setCell ⟨gb188, 3, none⟩ (.int .i64 t185)).setCell ⟨gb188, 4, none⟩ (.bool t186)).setCell ⟨gb188, 5, none⟩ (.bool t187)) w.heap.size (fun k_ => (P0_2_ k_ ∨ w.heap.size ≤ k_) ∧ some k_ ≠ (.slice Ao28 t182.length co28 : Value).ownBlock ∧ k_ ≠ gb172 ∧ k_ ≠ gb173 ∧ k_ ≠ gb188) v177 t176) := ⟨by (with_reducible repeat apply pV); exact Kd.V_mono (Kd.V_far (p := ⟨gb188, 5, none⟩) (Kd.V_far (p := ⟨gb188, 4, none⟩) (Kd.V_far (p := ⟨gb188, 3, none⟩) (Kd.V_far (p := ⟨gb188, 2, none⟩) (Kd.V_far (p := ⟨gb188, 1, none⟩) (Kd.V_far (p := ⟨gb188, 0, none⟩) (Kd.V_mono HO178.out (fun k_ hk => (⟨hk, hk.2⟩ : _ ∧ k_ ≠ gb188))) (fun _ hk => hk.2) (.int .i64 t180)) (fun _ hk => hk.2) (.int .i64 t181)) (fun _ hk => hk.2) (.slice Ao28 t182.length co28)) (fun _ hk => hk.2) (.int .i64 t185)) (fun _ hk => hk.2) (.bool t186)) (fun _ hk => hk.2) (.bool t187)) (fun _ hk => ⟨hk.1.1.1.1, ⟨hk.1.1.2, ⟨hk.1.1.1.2.1, ⟨hk.1.1.1.2.2, hk.1.2⟩⟩⟩⟩)⟩
        have n2_ : Aside0 (Kd.R k35 35 ((((((w24.setCell ⟨gb188, 0, none⟩ (.int .i64 t180)).setCell ⟨gb188, 1, none⟩ (.int .i64 t181)).setCell ⟨gb188, 2, none⟩ (.slice Ao28 t182.length co28)).setCell ⟨gb188, 3, none⟩ (.int .i64 t185)).setCell ⟨gb188, 4, none⟩ (.bool t186)).setCell ⟨gb188, 5, none⟩ (.bool t187)) w.heap.size (fun k_ => (w.heap.size ≤ k_)) (.slice Ao28 t182.length co28) t182) := ⟨by (with_reducible repeat apply pR); exact Kd.R_mono (Kd.R_far (p := ⟨gb188, 5, none⟩) (Kd.R_far (p := ⟨gb188, 4, none⟩) (Kd.R_far (p := ⟨gb188, 3, none⟩) (Kd.R_far (p := ⟨gb188, 2, none⟩) (Kd.R_far (p := ⟨gb188, 1, none⟩) (Kd.R_far (p := ⟨gb188, 0, none⟩) (Kd.R_types HO184.out BK188.out (by decide)) (fun _ hk => hk.2) (.int .i64 t180)) (fun _ hk => hk.2) (.int .i64 t181)) (fun _ hk => hk.2) (.slice Ao28 t182.length co28)) (fun _ hk => hk.2) (.int .i64 t185)) (fun _ hk => hk.2) (.bool t186)) (fun _ hk => hk.2) (.bool t187)) (fun _ hk => hk.1.1)⟩
        have n3_ : Aside0 (((((((w24.setCell ⟨gb188, 0, none⟩ (.int .i64 t180)).setCell ⟨gb188, 1, none⟩ (.int .i64 t181)).setCell ⟨gb188, 2, none⟩ (.slice Ao28 t182.length co28)).setCell ⟨gb188, 3, none⟩ (.int .i64 t185)).setCell ⟨gb188, 4, none⟩ (.bool t186)).setCell ⟨gb188, 5, none⟩ (.bool t187)).heap[gb172]? = some (.cells #[.int .i64 a0_0, .int .i64 a0_1, .slice A0_2 l0_2.length c0_2, .int .i64 a0_3, .bool false, .bool false] 24 (0, 0))) := ⟨by (with_reducible repeat apply pK); refine blk_far ?_ NB172_188.out _; (with_reducible repeat apply pK); refine blk_far ?_ NB172_188.out _; (with_reducible repeat apply pK); refine blk_far ?_ NB172_188.out _; (with_reducible repeat apply pK); refine blk_far ?_ NB172_188.out _; (with_reducible repeat apply pK); refine blk_far ?_ NB172_188.out _; (with_reducible repeat apply pK); refine blk_far ?_ NB172_188.out _; (with_reducible repeat apply pK); exact BK172.out⟩
        have n4_ : Aside0 (((((((w24.setCell ⟨gb188, 0, none⟩ (.int .i64 t180)).setCell ⟨gb188, 1, none⟩ (.int .i64 t181)).setCell ⟨gb188, 2, none⟩ (.slice Ao28 t182.length co28)).setCell ⟨gb188, 3, none⟩ (.int .i64 t185)).setCell ⟨gb188, 4, none⟩ (.bool t186)).setCell ⟨gb188, 5, none⟩ (.bool t187)).heap[gb173]? = some (.cells #[.int .i64 0, .int .i64 0, .slice none 0 0, .int .i64 0, .bool false, .bool false] 24 (0, 0))) := ⟨by (with_reducible repeat apply pK); refine blk_far ?_ NB173_188.out _; (with_reducible repeat apply pK); refine blk_far ?_ NB173_188.out _; (with_reducible repeat apply pK); refine blk_far ?_ NB173_188.out _; (with_reducible repeat apply pK); refine blk_far ?_ NB173_188.out _; (with_reducible repeat apply pK); refine blk_far ?_ NB173_188.out _; (with_reducible repeat apply pK); refine blk_far ?_ NB173_188.out _; (with_reducible repeat apply pK); exact BK173.out⟩
        have n5_ : Aside0 (((((((w24.setCell ⟨gb188, 0, none⟩ (.int .i64 t180)).setCell ⟨gb188, 1, none⟩ (.int .i64 t181)).setCell ⟨gb188, 2, none⟩ (.slice Ao28 t182.length co28)).setCell ⟨gb188, 3, none⟩ (.int .i64 t185)).setCell ⟨gb188, 4, none⟩ (.bool t186)).setCell ⟨gb188, 5, none⟩ (.bool t187)).heap[gb188]? = some (.cells #[.int .i64 t180, .int .i64 t181, .slice Ao28 t182.length co28, .int .i64 t185, .bool t186, .bool t187] 24 (0, 0))) := ⟨by (with_reducible repeat apply pK); refine blk_put (cs := #[.int .i64 t180, .int .i64 t181, .slice Ao28 t182.length co28, .int .i64 t185, .bool t186, .bool false]) ?_ 5 _ rfl; (with_reducible repeat apply pK); refine blk_put (cs := #[.int .i64 t180, .int .i64 t181, .slice Ao28 t182.length co28, .int .i64 t185, .bool false, .bool false]) ?_ 4 _ rfl; (with_reducible repeat apply pK); refine blk_put (cs := #[.int .i64 t180, .int .i64 t181, .slice Ao28 t182.length co28, .int .i64 0, .bool false, .bool false]) ?_ 3 _ rfl; (with_reducible repeat apply pK); refine blk_put (cs := #[.int .i64 t180, .int .i64 t181, .slice none 0 0, .int .i64 0, .bool false, .bool false]) ?_ 2 _ rfl; (with_reducible repeat apply pK); refine blk_put (cs := #[.int .i64 t180, .int .i64 0, .slice none 0 0, .int .i64 0, .bool false, .bool false]) ?_ 1 _ rfl; (with_reducible repeat apply pK); refine blk_put (cs := #[.int .i64 0, .int .i64 0, .slice none 0 0, .int .i64 0, .bool false, .bool false]) ?_ 0 _ rfl; (with_reducible repeat apply pK); exact BK188.out⟩
        have n6_ : Aside0 (Below w.heap.size w ((((((w24.setCell ⟨gb188, 0, none⟩ (.int .i64 t180)).setCell ⟨gb188, 1, none⟩ (.int .i64 t181)).setCell ⟨gb188, 2, none⟩ (.slice Ao28 t182.length co28)).setCell ⟨gb188, 3, none⟩ (.int .i64 t185)).setCell ⟨gb188, 4, none⟩ (.bool t186)).setCell ⟨gb188, 5, none⟩ (.bool t187))) := ⟨bl_⟩
        (try clear HO_173002)
        (try clear HO178)
        (try clear HO184)
        (try clear BK172)
        (try clear BK173)
        (try clear BK188)
        (try clear HB)
        generalize ((((((w24.setCell ⟨gb188, 0, none⟩ (.int .i64 t180)).setCell ⟨gb188, 1, none⟩ (.int .i64 t181)).setCell ⟨gb188, 2, none⟩ (.slice Ao28 t182.length co28)).setCell ⟨gb188, 3, none⟩ (.int .i64 t185)).setCell ⟨gb188, 4, none⟩ (.bool t186)).setCell ⟨gb188, 5, none⟩ (.bool t187)) = w37 at n0_ n1_ n2_ n3_ n4_ n5_ n6_ ⊢
        have HO_173002 := n0_
        have HO178 := n1_
        have HO184 := n2_
        have BK172 := n3_
        have BK173 := n4_
        have BK188 := n5_
        have HB := n6_
        clear n0_ n1_ n2_ n3_ n4_ n5_ n6_
        have n0_ := Aside0.mk (Kd.V_drew HO_173002.out)
        have n1_ := Aside0.mk (Kd.V_drew HO178.out)
        have n2_ := Aside0.mk (Kd.R_drew HO184.out)
        have n3_ := Aside0.mk (blk_drew BK172.out)
        have n4_ := Aside0.mk (blk_drew BK173.out)
        have n5_ := Aside0.mk (blk_drew BK188.out)
        have n6_ := Aside0.mk (below_drew1 HB.out)
        clear HO_173002
        clear HO178
        clear HO184
        clear BK172
        clear BK173
        clear BK188
        clear HB
        have HO_173002 := n0_
        have HO178 := n1_
        have HO184 := n2_
        have BK172 := n3_
        have BK173 := n4_
        have BK188 := n5_
        have HB := n6_
        clear n0_ n1_ n2_ n3_ n4_ n5_ n6_
        refine start_ (n := 11) (S := fun w' => w'.cell? ⟨gb172, 0, none⟩ = some (.int .i64 a0_0) ∧ w'.cell? ⟨gb172, 1, none⟩ = some (.int .i64 a0_1) ∧ w'.cell? ⟨gb172, 2, none⟩ = some (.slice A0_2 l0_2.length c0_2) ∧ w'.cell? ⟨gb172, 3, none⟩ = some (.int .i64 a0_3) ∧ w'.cell? ⟨gb172, 4, none⟩ = some (.bool false) ∧ w'.cell? ⟨gb172, 5, none⟩ = some (.bool false)) (ds := []) #[false, false, false, false, false, false, false, false, false, false, false] (by kernel_rfl) rfl rfl ⟨(blk_cell BK172.out 0).trans rfl, (blk_cell BK172.out 1).trans rfl, (blk_cell BK172.out 2).trans rfl, (blk_cell BK172.out 3).trans rfl, (blk_cell BK172.out 4).trans rfl, (blk_cell BK172.out 5).trans rfl⟩ (fun hHeld => ?_); refine with_tabW edit_Type.tab9 edit_Type.bits9 (fun HT_ HW_ => ?_)
        generalize w37.drew = w38 at HO_173002 HO178 HO184 BK172 BK173 BK188 HB hHeld ⊢
        refine pure_ (i := 0) (N := some 37) (v := ?_) (a' := ?_) #[true, false, false, false, false, false, false, false, false, false, false] rfl rfl (any_of HT_.out (by kernel_rfl)) (fun _ _ _ h => h) (Or.inl ⟨by rfl, ?_⟩) ?_ ?_
        rotate_left
        ·intro w'
         go_simp
         with_reducible rfl
        rotate_left
        ·simp only [Act.put, List.setIfInBounds_toArray, List.set_cons_zero, List.set_cons_succ, i64_w, i32_w]
         rfl
        refine take_ (i := 1) (N := some 38) (v := ?_) (a' := ?_) #[true, true, false, false, false, false, false, false, false, false, false] rfl rfl (take_ofW HT_.out HW_.out (by kernel_rfl)) (fun _ _ _ h => h) (Or.inl ⟨by rfl, ?_⟩) hHeld ?_ ?_
        rotate_left
        ·rintro w' ⟨s0, s1, s2, s3, s4, s5⟩
         go_simp
         with_reducible rfl
        rotate_left
        ·simp only [Act.put, List.setIfInBounds_toArray, List.set_cons_zero, List.set_cons_succ, i64_w, i32_w]
         rfl
        refine pure_ (i := 2) (N := some 39) (v := ?_) (a' := ?_) #[true, true, true, false, false, false, false, false, false, false, false] rfl rfl (any_of HT_.out (by kernel_rfl)) (fun _ _ _ h => h) (Or.inl ⟨by rfl, ?_⟩) ?_ ?_
        rotate_left
        ·intro w'
         go_simp
         with_reducible rfl
        rotate_left
        ·simp only [Act.put, List.setIfInBounds_toArray, List.set_cons_zero, List.set_cons_succ, i64_w, i32_w]
         rfl
        refine pure_ (i := 3) (N := some 40) (v := undef) (a' := ?_) #[true, true, true, true, false, false, false, false, false, false, false] rfl rfl (any_of HT_.out (by kernel_rfl)) (fun _ _ _ h => h) (Or.inr ⟨by rfl, rfl⟩) ?_ ?_
        rotate_left
        ·simp only [Act.put, List.setIfInBounds_toArray, List.set_cons_zero, List.set_cons_succ, i64_w, i32_w]
         rfl
        refine pure_ (i := 4) (N := some 41) (v := undef) (a' := ?_) #[true, true, true, true, true, false, false, false, false, false, false] rfl rfl (any_of HT_.out (by kernel_rfl)) (fun _ _ _ h => h) (Or.inr ⟨by rfl, rfl⟩) ?_ ?_
        rotate_left
        ·simp only [Act.put, List.setIfInBounds_toArray, List.set_cons_zero, List.set_cons_succ, i64_w, i32_w]
         rfl
        refine pure_ (i := 5) (N := some 42) (v := undef) (a' := ?_) #[true, true, true, true, true, true, false, false, false, false, false] rfl rfl (any_of HT_.out (by kernel_rfl)) (fun _ _ _ h => h) (Or.inr ⟨by rfl, rfl⟩) ?_ ?_
        rotate_left
        ·simp only [Act.put, List.setIfInBounds_toArray, List.set_cons_zero, List.set_cons_succ, i64_w, i32_w]
         rfl
        refine pure_ (i := 6) (N := some 43) (v := undef) (a' := ?_) #[true, true, true, true, true, true, true, false, false, false, false] rfl rfl (any_of HT_.out (by kernel_rfl)) (fun _ _ _ h => h) (Or.inr ⟨by rfl, rfl⟩) ?_ ?_
        rotate_left
        ·simp only [Act.put, List.setIfInBounds_toArray, List.set_cons_zero, List.set_cons_succ, i64_w, i32_w]
         rfl
        refine pure_ (i := 7) (N := some 44) (v := undef) (a' := ?_) #[true, true, true, true, true, true, true, true, false, false, false] rfl rfl (any_of HT_.out (by kernel_rfl)) (fun _ _ _ h => h) (Or.inr ⟨by rfl, rfl⟩) ?_ ?_
        rotate_left
        ·simp only [Act.put, List.setIfInBounds_toArray, List.set_cons_zero, List.set_cons_succ, i64_w, i32_w]
         rfl
        refine pure_ (i := 8) (N := some 45) (v := undef) (a' := ?_) #[true, true, true, true, true, true, true, true, true, false, false] rfl rfl (any_of HT_.out (by kernel_rfl)) (fun _ _ _ h => h) (Or.inr ⟨by rfl, rfl⟩) ?_ ?_
        rotate_left
        ·simp only [Act.put, List.setIfInBounds_toArray, List.set_cons_zero, List.set_cons_succ, i64_w, i32_w]
         rfl
        refine pure_ (i := 9) (N := some 46) (v := undef) (a' := ?_) #[true, true, true, true, true, true, true, true, true, true, false] rfl rfl (any_of HT_.out (by kernel_rfl)) (fun _ _ _ h => h) (Or.inr ⟨by rfl, rfl⟩) ?_ ?_
        rotate_left
        ·simp only [Act.put, List.setIfInBounds_toArray, List.set_cons_zero, List.set_cons_succ, i64_w, i32_w]
         rfl
        refine pure_ (i := 10) (N := some 47) (v := ?_) (a' := ?_) #[true, true, true, true, true, true, true, true, true, true, true] rfl rfl (any_of HT_.out (by kernel_rfl)) (fun _ _ _ h => h) (Or.inl ⟨by rfl, ?_⟩) ?_ ?_
        rotate_left
        ·intro w'
         go_simp
         with_reducible rfl
        rotate_left
        ·simp only [Act.put, List.setIfInBounds_toArray, List.set_cons_zero, List.set_cons_succ, i64_w, i32_w]
         rfl
        refine done_ (done_of HT_.out (by kernel_rfl)) ?_
        try go_wp2
        go_meet
        case rel => exact ⟨_, (false), (l0_2), (t182), (.slice A0_2 l0_2.length c0_2), (.slice Ao28 t182.length co28), (by first | rfl | (simp; done) | (simp [*]; done)), H', ⟨by have := HJ2.out; first | omega | exact Nat.le_refl _⟩, ⟨by (with_reducible repeat apply pV); exact HO_173002.out⟩, ⟨by (with_reducible repeat apply pR); exact HO184.out⟩, ⟨by (with_reducible repeat apply pK); exact BK172.out⟩, ⟨by (with_reducible repeat apply pK); exact BK173.out⟩, ⟨by (with_reducible repeat apply pK); exact BK188.out⟩, ⟨bl_⟩⟩
      case rest =>
       clear HC18
       try clear c1
       try clear q1
       try clear c2
       try clear p2
       try clear c3
       try clear c5
       try clear c6
       try clear c6b0
       try clear c6b1
       try clear c8
       try clear c9
       try clear c12
       try clear c13
       try clear q17
       try clear c19
       try clear c25
       try clear c26
       try clear c29
       try clear c31
       try clear c36
       try clear hcz10_0
       try clear hcz10_1
       try clear hcz10_2
       try clear hcz10_3
       try clear hcz10_4
       try clear hcz10_5
       try clear hcz11_0
       try clear hcz11_1
       try clear hcz11_2
       try clear hcz11_3
       try clear hcz11_4
       try clear hcz11_5
       try clear hcz14_0
       try clear hcz14_1
       try clear hcz14_2
       try clear hcz14_3
       try clear hcz14_4
       try clear hcz14_5
       try clear hcz15_0
       try clear hcz15_1
       try clear hcz15_2
       try clear hcz15_3
       try clear hcz15_4
       try clear hcz15_5
       try clear hcz20_0
       try clear hcz20_1
       try clear hcz20_2
       try clear hcz20_3
       try clear hcz20_4
       try clear hcz20_5
       try clear hcz22_0
       try clear hcz22_1
       try clear hcz22_2
       try clear hcz22_3
       try clear hcz22_4
       try clear hcz22_5
       try clear hcz27_0
       try clear hcz27_1
       try clear hcz27_2
       try clear hcz27_3
       try clear hcz27_4
       try clear hcz27_5
       try clear hfz10_0
       try clear hfz10_1
       try clear hfz10_2
       try clear hfz10_3
       try clear hfz10_4
       try clear hfz10_5
       try clear hfz11_0
       try clear hfz11_1
       try clear hfz11_2
       try clear hfz11_3
       try clear hfz11_4
       try clear hfz11_5
       try clear hfz14_0
       try clear hfz14_1
       try clear hfz14_2
       try clear hfz14_3
       try clear hfz14_4
       try clear hfz14_5
       try clear hfz15_0
       try clear hfz15_1
       try clear hfz15_2
       try clear hfz15_3
       try clear hfz15_4
       try clear hfz15_5
       try clear hfz20_0
       try clear hfz20_1
       try clear hfz20_2
       try clear hfz20_3
       try clear hfz20_4
       try clear hfz20_5
       try clear hfz22_0
       try clear hfz22_1
       try clear hfz22_2
       try clear hfz22_3
       try clear hfz22_4
       try clear hfz22_5
       try clear hfz27_0
       try clear hfz27_1
       try clear hfz27_2
       try clear hfz27_3
       try clear hfz27_4
       try clear hfz27_5
       try clear p2
       try clear q179
       obtain ⟨kq, x47_17, x173002_17, x189002_17, u173002, u189002, rfl, HA, HJ17, HO_173002, HO_189002, BK172, BK173, BK188, HB⟩ := hcut
       cases kq with
       | zero => exact absurd HA.out (by simp [edit_Type.j1])
       | succ kj17 =>
        have H := HA.out
        clear HA
        simp only [edit_Type.j1] at H
        by_cases c39 : x47_17 = true
        ·subst c39
         have H1 : ((edit_Deny.f a0_0 a0_1 x173002_17 a0_3 false a0_5 (some (Er.num 10)) ([] : List (S164))).bind fun bt194 => (some (bt194.1, bt194.2.1, bt194.2.2.1, bt194.2.2.2.1, bt194.2.2.2.2.1, bt194.2.2.2.2.2.1, bt194.2.2.2.2.2.2.1, bt194.2.2.2.2.2.2.2))) = some (r1, r2, r3, r4, r5, r6, r7, r8) := by rw [if_pos rfl] at H; exact H
         clear H
         have H := H1
         clear H1
         replace H := Option.bind_eq_some_iff.mp H
         obtain ⟨⟨t194, t195, t196, t199, t200, t201, t202, t203⟩, A400, H⟩ := H
         replace H : (some (t194, t195, t196, t199, t200, t201, t202, t203)) = some (r1, r2, r3, r4, r5, r6, r7, r8) := H
         have A40 := Aside0.mk A400
         clear A400
         simp only [Option.some.injEq, Prod.mk.injEq] at H
         obtain ⟨rfl, rfl, rfl, rfl, rfl, rfl, rfl, rfl⟩ := H
         have hnb41 := NB172_173.out
         have hnc41 := NB173_172.out
         have hnb42 := NB172_188.out
         have hnc42 := NB188_172.out
         obtain ⟨hcz43_0, hcz43_1, hcz43_2, hcz43_3, hcz43_4, hcz43_5, hfz43_0, hfz43_1, hfz43_2, hfz43_3, hfz43_4, hfz43_5⟩ := cells6 (show wc.heap[gb172]? = some (.cells #[.int .i64 a0_0, .int .i64 a0_1, u173002, .int .i64 a0_3, .bool false, .bool a0_5] _ (0, 0)) from BK172.out)
         obtain ⟨Ao44, co44, eo44⟩ := Kd.V_slice HO_173002.out
         subst eo44
         go_wp2_with (first | ((with_reducible refine gate_callee (f := 34) rfl ?_); refine goesL_ (some 50) rfl rfl Tryd.func34 (by kernel_rfl) rfl #[.agg #[.int .i64 a0_0, .int .i64 a0_1, .slice Ao44 x173002_17.length co44, .int .i64 a0_3, .bool false, .bool a0_5], errW (.slice none 0 0) (some (Er.num 10))] rfl ag_ ?_; (refine (edit_Deny.calls a0_0 a0_1 _ _ x173002_17 a0_3 false a0_5 (some (Er.num 10)) _ _ ([] : List (S164)) t194 t195 t196 t199 t200 t201 t202 t203 _ ?side1 ?side2 ?side3 ?side4 A40.out).mono ?_); (case side1 => repeat (first | exact (Kd.V_reads' HO_173002.out).2.2 | (with_reducible apply pC))); (case side2 => exact (Kd.V_reads' HO_173002.out).2.1); (case side3 => exact Kd.C_nil _ _); (case side4 => exact Nat.le_refl _); rintro e w45 ⟨v197, v204, rfl, ho0, ho1, hb⟩; refine ⟨_, rfl, ?_⟩; have n0_ := Aside0.mk (Kd.V_elder' (by (with_reducible repeat apply pV); exact HO_173002.out) (Kd.R_base ho0) hb); have n1_ := Aside0.mk (Kd.R_elder' (by (with_reducible repeat apply pR); exact HO_189002.out) (Kd.R_base ho0) hb); have n2_ := Aside0.mk (Kd.R_lower (Kd.R_new' (Kd.R_newM (M := fun k_ => (w.heap.size ≤ k_)) (Kd.R_mono (ok' := fun k_ => True) ho0 (fun _ hk_ => trivial)) (below_size bl_) (fun k_ h_ => h_)) (Kd.R_lt (by (with_reducible repeat apply pR); exact HO_189002.out))) (below_size bl_)); have n3_ := Aside0.mk (Kd.V_lower (Kd.V_mono (ok' := fun k_ => (P0_2_ k_ ∨ w.heap.size ≤ k_) ∧ some k_ ≠ (v197 : Value).ownBlock ∧ some k_ ≠ (u189002 : Value).ownBlock ∧ k_ ≠ gb172 ∧ k_ ≠ gb173 ∧ k_ ≠ gb188) ho1 (fun k_ hk_ => ⟨(.inr (Nat.le_trans (below_size bl_) hk_.1)), hk_.2, (Kd.fresh' (Kd.R_lt (by (with_reducible repeat apply pR); exact HO_189002.out)) k_ hk_.1), (Kd.freshB (g := gb172) (o := .cells #[.int .i64 a0_0, .int .i64 a0_1, .slice Ao44 x173002_17.length co44, .int .i64 a0_3, .bool false, .bool a0_5] 24 (0, 0)) (by (with_reducible repeat apply pK); exact BK172.out) k_ hk_.1), (Kd.freshB (g := gb173) (o := .cells #[.int .i64 0, .int .i64 0, .slice none 0 0, .int .i64 0, .bool false, .bool false] 24 (0, 0)) (by (with_reducible repeat apply pK); exact BK173.out) k_ hk_.1), (Kd.freshB (g := gb188) (o := .cells #[.int .i64 t180, .int .i64 t181, u189002, .int .i64 t185, .bool t186, .bool t187] 24 (0, 0)) (by (with_reducible repeat apply pK); exact BK188.out) k_ hk_.1)⟩)) (below_size bl_)); have n4_ := Aside0.mk (blk_below (g := gb172) (o := .cells #[.int .i64 a0_0, .int .i64 a0_1, .slice Ao44 x173002_17.length co44, .int .i64 a0_3, .bool false, .bool a0_5] 24 (0, 0)) (by (with_reducible repeat apply pK); exact BK172.out) hb); have n5_ := Aside0.mk (blk_below (g := gb173) (o := .cells #[.int .i64 0, .int .i64 0, .slice none 0 0, .int .i64 0, .bool false, .bool false] 24 (0, 0)) (by (with_reducible repeat apply pK); exact BK173.out) hb); have n6_ := Aside0.mk (blk_below (g := gb188) (o := .cells #[.int .i64 t180, .int .i64 t181, u189002, .int .i64 t185, .bool t186, .bool t187] 24 (0, 0)) (by (with_reducible repeat apply pK); exact BK188.out) hb); have n7_ := Aside0.mk (below_step bl_ hb); clear HO_173002; clear HO_189002; clear BK172; clear BK173; clear BK188; clear HB; have HO_173002 := n0_; have HO_189002 := n1_; have HO198 := n2_; have HO205 := n3_; have BK172 := n4_; have BK173 := n5_; have BK188 := n6_; have HB := n7_; clear n0_ n1_ n2_ n3_ n4_ n5_ n6_ n7_; (try clear hb); (try clear hb2); (try clear hk); (try clear hi); (try clear ho0); (try clear ho1); (try simp only [errW_none, errW_some]); have hnb46 := NB173_188.out; have hnc46 := NB188_173.out; obtain ⟨hcz47_0, hcz47_1, hcz47_2, hcz47_3, hcz47_4, hcz47_5, hfz47_0, hfz47_1, hfz47_2, hfz47_3, hfz47_4, hfz47_5⟩ := cells6 (show w45.heap[gb173]? = some (.cells #[.int .i64 0, .int .i64 0, .slice none 0 0, .int .i64 0, .bool false, .bool false] _ (0, 0)) from BK173.out); obtain ⟨Ao48, co48, eo48⟩ := Kd.R_slice HO198.out; subst eo48))
         refine bodyPost_ret (results_ct rfl _ _ gb173 24 #[.int .i64 t194, .int .i64 t195, .slice Ao48 t196.length co48, .int .i64 t199, .bool t200, .bool t201] (0, 0) _ rfl (by (with_reducible repeat apply pK); refine blk_put (cs := #[.int .i64 t194, .int .i64 t195, .slice Ao48 t196.length co48, .int .i64 t199, .bool t200, .bool false]) ?_ 5 _ rfl; (with_reducible repeat apply pK); refine blk_put (cs := #[.int .i64 t194, .int .i64 t195, .slice Ao48 t196.length co48, .int .i64 t199, .bool false, .bool false]) ?_ 4 _ rfl; (with_reducible repeat apply pK); refine blk_put (cs := #[.int .i64 t194, .int .i64 t195, .slice Ao48 t196.length co48, .int .i64 0, .bool false, .bool false]) ?_ 3 _ rfl; (with_reducible repeat apply pK); refine blk_put (cs := #[.int .i64 t194, .int .i64 t195, .slice none 0 0, .int .i64 0, .bool false, .bool false]) ?_ 2 _ rfl; (with_reducible repeat apply pK); refine blk_put (cs := #[.int .i64 t194, .int .i64 0, .slice none 0 0, .int .i64 0, .bool false, .bool false]) ?_ 1 _ rfl; (with_reducible repeat apply pK); refine blk_put (cs := #[.int .i64 0, .int .i64 0, .slice none 0 0, .int .i64 0, .bool false, .bool false]) ?_ 0 _ rfl; (with_reducible repeat apply pK); exact BK173.out) Tryd.underlying24 rfl (by kernel_rfl)) rfl ?_
         exact ⟨_, _, by first | rfl | (simp [errW_none, errW_some] <;> rfl) | (simp [*, errW_none, errW_some] <;> rfl), Kd.V_mono (Kd.R_V (by (with_reducible repeat apply pR); exact Kd.R_mono (Kd.R_far (p := ⟨gb173, 5, none⟩) (Kd.R_far (p := ⟨gb173, 4, none⟩) (Kd.R_far (p := ⟨gb173, 3, none⟩) (Kd.R_far (p := ⟨gb173, 2, none⟩) (Kd.R_far (p := ⟨gb173, 1, none⟩) (Kd.R_far (p := ⟨gb173, 0, none⟩) (Kd.R_types HO198.out BK173.out (by decide)) (fun _ hk => hk.2) (.int .i64 t194)) (fun _ hk => hk.2) (.int .i64 t195)) (fun _ hk => hk.2) (.slice Ao48 t196.length co48)) (fun _ hk => hk.2) (.int .i64 t199)) (fun _ hk => hk.2) (.bool t200)) (fun _ hk => hk.2) (.bool t201)) (fun _ hk => hk.1.1.1))) (fun k_ hk => by first | exact ⟨(.inr (hk.1)), hk.2⟩ | exact (.inr (hk))), by (with_reducible repeat apply pV); exact Kd.V_mono (Kd.V_far (p := ⟨gb173, 5, none⟩) (Kd.V_far (p := ⟨gb173, 4, none⟩) (Kd.V_far (p := ⟨gb173, 3, none⟩) (Kd.V_far (p := ⟨gb173, 2, none⟩) (Kd.V_far (p := ⟨gb173, 1, none⟩) (Kd.V_far (p := ⟨gb173, 0, none⟩) (Kd.V_mono HO205.out (fun k_ hk => (⟨hk, hk.2.2.2.2.1⟩ : _ ∧ k_ ≠ gb173))) (fun _ hk => hk.2) (.int .i64 t194)) (fun _ hk => hk.2) (.int .i64 t195)) (fun _ hk => hk.2) (.slice Ao48 t196.length co48)) (fun _ hk => hk.2) (.int .i64 t199)) (fun _ hk => hk.2) (.bool t200)) (fun _ hk => hk.2) (.bool t201)) (fun _ hk => hk.1.1), bl_⟩
        ·replace c39 := Bool.eq_false_iff.mpr c39
         subst c39
         have H1 : (if 0 ≤ a0_3 then (if a0_3 < (x189002_17.length : Int) then ((some (x189002_17.set (a0_3 : Int).toNat (⟨false, (⟨false, false, 0, false⟩ : S33), a1⟩ : S35) : List (S35))).bind fun y206 => ((edit_onward.f kj17 t180 t181 y206 t185 t186 t187).bind fun t207 => (some (t180, t181, y206, t207, t186, t187, none, ([] : List (S164)))))) else (none)) else (none)) = some (r1, r2, r3, r4, r5, r6, r7, r8) := by rw [if_neg (show ¬ (false = true) by decide)] at H; exact H
         clear H
         have H := H1
         clear H1
         by_cases c49 : 0 ≤ a0_3
         ·rw [if_pos c49] at H
          have c49b0 : decide (0 ≤ a0_3) = true := decide_eq_true c49
          clear c49
          by_cases c50 : a0_3 < (x189002_17.length : Int)
          ·rw [if_pos c50] at H
           have c50b0 : decide (a0_3 < (x189002_17.length : Int)) = true := decide_eq_true c50
           clear c50
           obtain ⟨y206, hy206⟩ : ∃ y_ : List (S35), y_ = (x189002_17.set (a0_3 : Int).toNat (⟨false, (⟨false, false, 0, false⟩ : S33), a1⟩ : S35)) := ⟨_, rfl⟩
           replace H : ((edit_onward.f kj17 t180 t181 y206 t185 t186 t187).bind fun t207 => (some (t180, t181, y206, t207, t186, t187, none, ([] : List (S164))))) = some (r1, r2, r3, r4, r5, r6, r7, r8) := by first | (rw [hy206]; with_reducible exact H) | (have H2_ := (Option.bind_some _ _).symm.trans H; rw [hy206]; with_reducible exact H2_) | (have H2_ := (Option.bind_some _ _).symm.trans H; with_reducible exact H2_) | with_reducible exact H | (rw [hy206]; exact H) | exact H
           have Ny206 := Aside0.mk hy206
           clear hy206
           replace H := Option.bind_eq_some_iff.mp H
           obtain ⟨t207, A520, H⟩ := H
           replace H : (some (t180, t181, y206, t207, t186, t187, none, ([] : List (S164)))) = some (r1, r2, r3, r4, r5, r6, r7, r8) := H
           have A52 := Aside0.mk A520
           clear A520
           simp only [Option.some.injEq, Prod.mk.injEq] at H
           obtain ⟨rfl, rfl, rfl, rfl, rfl, rfl, rfl, rfl⟩ := H
           have hnb53 := NB188_172.out
           have hnc53 := NB172_188.out
           have hnb54 := NB188_173.out
           have hnc54 := NB173_188.out
           obtain ⟨hcz55_0, hcz55_1, hcz55_2, hcz55_3, hcz55_4, hcz55_5, hfz55_0, hfz55_1, hfz55_2, hfz55_3, hfz55_4, hfz55_5⟩ := cells6 (show wc.heap[gb188]? = some (.cells #[.int .i64 t180, .int .i64 t181, u189002, .int .i64 t185, .bool t186, .bool t187] _ (0, 0)) from BK188.out)
           have hnb56 := NB172_173.out
           have hnc56 := NB173_172.out
           obtain ⟨hcz57_0, hcz57_1, hcz57_2, hcz57_3, hcz57_4, hcz57_5, hfz57_0, hfz57_1, hfz57_2, hfz57_3, hfz57_4, hfz57_5⟩ := cells6 (show wc.heap[gb172]? = some (.cells #[.int .i64 a0_0, .int .i64 a0_1, u173002, .int .i64 a0_3, .bool false, .bool a0_5] _ (0, 0)) from BK172.out)
           have p51 : 0 ≤ (a0_3 : Int) := of_decide_eq_true (by first | (with_reducible assumption) | assumption)
           have q51 : (a0_3 : Int) < ((x189002_17.length : Int) : Int) := of_decide_eq_true (by first | (with_reducible assumption) | assumption)
           obtain ⟨go51, co51, eo51, gb51, gl51, cl51, HG51⟩ := Kd.R_form HO_189002.out (by omega)
           (first | cases eo51 | (injection eo51 with ea_ en_ ec_; (first | subst ea_ | (injection ea_ with ea_; subst ea_)); subst ec_; clear en_))
           have GB51 := Aside0.mk gb51
           have GG51 := Aside0.mk HG51
           clear gb51 gl51 HG51
           obtain ⟨ce51, hcl51, hM51, hcc51, hfr51⟩ := Kd.R_elem HO_189002.out z35 (a0_3 : Int) p51 q51
           obtain rfl := k35_openM hM51
           have hx51_0 : wc.cell? ⟨go51, (a0_3 : Int).toNat * 6, none⟩ = some (.bool ((rd_T35 x189002_17 a0_3).f0)) := hcc51 0 _ rfl
           have hx51_1 : wc.cell? ⟨go51, (a0_3 : Int).toNat * 6 + 1, none⟩ = some (.bool ((rd_T35 x189002_17 a0_3).f1.f0)) := hcc51 1 _ rfl
           have hx51_2 : wc.cell? ⟨go51, (a0_3 : Int).toNat * 6 + 2, none⟩ = some (.bool ((rd_T35 x189002_17 a0_3).f1.f1)) := hcc51 2 _ rfl
           have hx51_3 : wc.cell? ⟨go51, (a0_3 : Int).toNat * 6 + 3, none⟩ = some (.int .i64 ((rd_T35 x189002_17 a0_3).f1.f2)) := hcc51 3 _ rfl
           have hx51_4 : wc.cell? ⟨go51, (a0_3 : Int).toNat * 6 + 4, none⟩ = some (.bool ((rd_T35 x189002_17 a0_3).f1.f3)) := hcc51 4 _ rfl
           have hx51_5 : wc.cell? ⟨go51, (a0_3 : Int).toNat * 6 + 5, none⟩ = some (.int .u8 ((rd_T35 x189002_17 a0_3).f2)) := hcc51 5 _ rfl
           have hf51_0 : wc.frozen? ⟨go51, (a0_3 : Int).toNat * 6, none⟩ = false := hfr51 0
           have hf51_1 : wc.frozen? ⟨go51, (a0_3 : Int).toNat * 6 + 1, none⟩ = false := hfr51 1
           have hf51_2 : wc.frozen? ⟨go51, (a0_3 : Int).toNat * 6 + 2, none⟩ = false := hfr51 2
           have hf51_3 : wc.frozen? ⟨go51, (a0_3 : Int).toNat * 6 + 3, none⟩ = false := hfr51 3
           have hf51_4 : wc.frozen? ⟨go51, (a0_3 : Int).toNat * 6 + 4, none⟩ = false := hfr51 4
           have hf51_5 : wc.frozen? ⟨go51, (a0_3 : Int).toNat * 6 + 5, none⟩ = false := hfr51 5
           clear hcl51 hcc51 hfr51 hM51
           replace p51 := eq_true p51
           replace q51 := eq_true q51
           have HX58 := Aside0.mk (show Kd.R k35 35 wc w.heap.size (fun k_ => (w.heap.size ≤ k_)) (.slice (some ⟨go51, 0, none⟩) x189002_17.length co51) x189002_17 from (by (with_reducible repeat apply pR); exact HO_189002.out))
           obtain ⟨ce58, hcl58, hM58, hcc58, hfr58⟩ := Kd.R_elem HX58.out z35 (a0_3 : Int) (of_decide_eq_true (by first | (with_reducible assumption) | assumption)) (by have h_ : (a0_3 : Int) < ((x189002_17.length : Int) : Int) := of_decide_eq_true (by first | (with_reducible assumption) | assumption); first | exact h_ | (have e_ := (Kd.R_reads' HO_189002.out).1; omega) | simpa using h_)
           obtain rfl := k35_openM hM58
           have HP58 := Kd.R_seg HX58.out (a0_3 : Int) (of_decide_eq_true (by first | (with_reducible assumption) | assumption)) (by have h_ : (a0_3 : Int) < ((x189002_17.length : Int) : Int) := of_decide_eq_true (by first | (with_reducible assumption) | assumption); first | exact h_ | (have e_ := (Kd.R_reads' HO_189002.out).1; omega) | simpa using h_) (seg := [.bool false, .bool false, .bool false, .int .i64 0, .bool false, .int .u8 a1]) (j := 0) hcl58 hcc58 (show 6 ≤ 6 from by decide) (x' := (⟨false, (⟨false, false, 0, false⟩ : S33), a1⟩ : S35)) (k35_mkM _ _ _ (⟨false, (⟨false, false, 0, false⟩ : S33), a1⟩ : S35) ) (fun _ hk => hk)
           have hx58_0 := hcc58 0 _ rfl
           (try simp only [show (k35).sz = 6 from rfl, Nat.mul_one, Nat.add_zero] at hx58_0)
           have hf58_0 := hfr58 0
           (try simp only [show (k35).sz = 6 from rfl, Nat.mul_one, Nat.add_zero] at hf58_0)
           have hx58_1 := hcc58 1 _ rfl
           (try simp only [show (k35).sz = 6 from rfl, Nat.mul_one, Nat.add_zero] at hx58_1)
           have hf58_1 := hfr58 1
           (try simp only [show (k35).sz = 6 from rfl, Nat.mul_one, Nat.add_zero] at hf58_1)
           have hx58_2 := hcc58 2 _ rfl
           (try simp only [show (k35).sz = 6 from rfl, Nat.mul_one, Nat.add_zero] at hx58_2)
           have hf58_2 := hfr58 2
           (try simp only [show (k35).sz = 6 from rfl, Nat.mul_one, Nat.add_zero] at hf58_2)
           have hx58_3 := hcc58 3 _ rfl
           (try simp only [show (k35).sz = 6 from rfl, Nat.mul_one, Nat.add_zero] at hx58_3)
           have hf58_3 := hfr58 3
           (try simp only [show (k35).sz = 6 from rfl, Nat.mul_one, Nat.add_zero] at hf58_3)
           have hx58_4 := hcc58 4 _ rfl
           (try simp only [show (k35).sz = 6 from rfl, Nat.mul_one, Nat.add_zero] at hx58_4)
           have hf58_4 := hfr58 4
           (try simp only [show (k35).sz = 6 from rfl, Nat.mul_one, Nat.add_zero] at hf58_4)
           have hx58_5 := hcc58 5 _ rfl
           (try simp only [show (k35).sz = 6 from rfl, Nat.mul_one, Nat.add_zero] at hx58_5)
           have hf58_5 := hfr58 5
           (try simp only [show (k35).sz = 6 from rfl, Nat.mul_one, Nat.add_zero] at hf58_5)
           clear hcl58 hcc58 hfr58 hM58
           go_wp2_with (first | ((with_reducible refine gate_store (t := 35) (p := 59) rfl ?_); refine store_event (t := 35) (p := 59) (v := ?vo_w59) (w1 := ((((((wc.setCell ⟨go51, (a0_3 : Int).toNat * 6, none⟩ (.bool false)).setCell ⟨go51, (a0_3 : Int).toNat * 6 + 1, none⟩ (.bool false)).setCell ⟨go51, (a0_3 : Int).toNat * 6 + 2, none⟩ (.bool false)).setCell ⟨go51, (a0_3 : Int).toNat * 6 + 3, none⟩ (.int .i64 0)).setCell ⟨go51, (a0_3 : Int).toNat * 6 + 4, none⟩ (.bool false)).setCell ⟨go51, (a0_3 : Int).toNat * 6 + 5, none⟩ (.int .u8 a1))) ?hg ?ho ?hn ?hr ?_; (case ho => rfl); (case hg => rfl); (case hn => rfl); (case hr => first | (go_simp; done) | (go_simp; rfl)); intro w59 hw; have hg : wc.grownBy w59 (some go51) := (by rw [hw]; exact HP58.2); have hp_ : Kd.R k35 35 w59 w.heap.size (fun k_ => (w.heap.size ≤ k_)) (.slice (some ⟨go51, 0, none⟩) x189002_17.length co51) y206 := (by rw [hw, Ny206.out]; exact HP58.1); clear HP58; have n0_ := Aside0.mk (Kd.V_afterv (v := (.slice (some ⟨go51, 0, none⟩) x189002_17.length co51)) (v1 := (.slice (some ⟨go51, 0, none⟩) x189002_17.length co51)) (ok := (fun k_ => (P0_2_ k_ ∨ w.heap.size ≤ k_) ∧ k_ ≠ gb172 ∧ k_ ≠ gb173 ∧ k_ ≠ gb188)) (by (with_reducible repeat apply pV); exact Kd.V_mono HO_173002.out (fun _ hk => ⟨⟨hk.1, ⟨hk.2.2.1, ⟨hk.2.2.2.1, hk.2.2.2.2⟩⟩⟩, hk.2.1⟩)) hg (.inl rfl)); have n1_ := Aside0.mk (hp_); have n2_ := Aside0.mk (blk_grown (g := gb172) (o := .cells #[.int .i64 a0_0, .int .i64 a0_1, u173002, .int .i64 a0_3, .bool false, .bool a0_5] 24 (0, 0)) (by (with_reducible repeat apply pK); exact BK172.out) hg (Kd.R_ne HO_189002.out BK172.out (by decide))); have n3_ := Aside0.mk (blk_grown (g := gb173) (o := .cells #[.int .i64 0, .int .i64 0, .slice none 0 0, .int .i64 0, .bool false, .bool false] 24 (0, 0)) (by (with_reducible repeat apply pK); exact BK173.out) hg (Kd.R_ne HO_189002.out BK173.out (by decide))); have n4_ := Aside0.mk (blk_grown (g := gb188) (o := .cells #[.int .i64 t180, .int .i64 t181, .slice (some ⟨go51, 0, none⟩) x189002_17.length co51, .int .i64 t185, .bool t186, .bool t187] 24 (0, 0)) (by (with_reducible repeat apply pK); exact BK188.out) hg (Kd.R_ne HO_189002.out BK188.out (by decide))); have n5_ := Aside0.mk ((by rw [hw]; exact below_set (below_set (below_set (below_set (below_set (below_set (HB.out) GB51.out) GB51.out) GB51.out) GB51.out) GB51.out) GB51.out : Below w.heap.size w w59)); clear HO_173002; clear HO_189002; clear BK172; clear BK173; clear BK188; clear HB; have HO_173002 := n0_; have HO_189002 := n1_; have BK172 := n2_; have BK173 := n3_; have BK188 := n4_; have HB := n5_; clear n0_ n1_ n2_ n3_ n4_ n5_; clear hg hw hp_; obtain ⟨hcz60_0, hcz60_1, hcz60_2, hcz60_3, hcz60_4, hcz60_5, hfz60_0, hfz60_1, hfz60_2, hfz60_3, hfz60_4, hfz60_5⟩ := cells6 (show w59.heap[gb188]? = some (.cells #[.int .i64 t180, .int .i64 t181, .slice (some ⟨go51, 0, none⟩) x189002_17.length co51, .int .i64 t185, .bool t186, .bool t187] _ (0, 0)) from BK188.out)) | ((with_reducible refine gate_callee (f := 56) rfl ?_); refine goesL_ (some 61) rfl rfl Tryd.func56 (by kernel_rfl) rfl #[.agg #[.int .i64 t180, .int .i64 t181, .slice (some ⟨go51, 0, none⟩) y206.length co51, .int .i64 t185, .bool t186, .bool t187]] rfl (by (try simp only [List.map_toArray, List.map_cons, List.map_nil]); first | done | (rw [show y206.length = x189002_17.length from (Kd.R_reads' HO_189002.out).1.symm] <;> rfl) | rfl | (simp only [List.length_drop, List.length_take]; rfl)) ?_; (with_reducible refine (edit_onward.calls kj17 t180 t181 _ _ y206 t185 t186 t187 t207 _ ?side1 ?side2 A52.out).mono ?_); (case side1 => repeat (first | exact (Kd.R_reads' HO_189002.out).2.2 | (with_reducible apply pC))); (case side2 => rw [show y206.length = x189002_17.length from (Kd.R_reads' HO_189002.out).1.symm]; exact (Kd.R_reads' HO_189002.out).2.1); rintro e w61 ⟨rfl, hb⟩; refine ⟨_, rfl, ?_⟩; have n0_ := Aside0.mk (Kd.V_below (by (with_reducible repeat apply pV); exact HO_173002.out) hb); have n1_ := Aside0.mk (Kd.R_below (by (with_reducible repeat apply pR); exact HO_189002.out) hb); have n2_ := Aside0.mk (blk_below (g := gb172) (o := .cells #[.int .i64 a0_0, .int .i64 a0_1, u173002, .int .i64 a0_3, .bool false, .bool a0_5] 24 (0, 0)) (by (with_reducible repeat apply pK); exact BK172.out) hb); have n3_ := Aside0.mk (blk_below (g := gb173) (o := .cells #[.int .i64 0, .int .i64 0, .slice none 0 0, .int .i64 0, .bool false, .bool false] 24 (0, 0)) (by (with_reducible repeat apply pK); exact BK173.out) hb); have n4_ := Aside0.mk (blk_below (g := gb188) (o := .cells #[.int .i64 t180, .int .i64 t181, .slice (some ⟨go51, 0, none⟩) x189002_17.length co51, .int .i64 t185, .bool t186, .bool t187] 24 (0, 0)) (by (with_reducible repeat apply pK); exact BK188.out) hb); have n5_ := Aside0.mk (below_step bl_ hb); clear HO_173002; clear HO_189002; clear BK172; clear BK173; clear BK188; clear HB; have HO_173002 := n0_; have HO_189002 := n1_; have BK172 := n2_; have BK173 := n3_; have BK188 := n4_; have HB := n5_; clear n0_ n1_ n2_ n3_ n4_ n5_; (try clear hb); (try clear hb2); (try clear hk); (try clear hi); obtain ⟨hcz62_0, hcz62_1, hcz62_2, hcz62_3, hcz62_4, hcz62_5, hfz62_0, hfz62_1, hfz62_2, hfz62_3, hfz62_4, hfz62_5⟩ := cells6 (show w61.heap[gb188]? = some (.cells #[.int .i64 t180, .int .i64 t181, .slice (some ⟨go51, 0, none⟩) x189002_17.length co51, .int .i64 t185, .bool t186, .bool t187] _ (0, 0)) from BK188.out); obtain ⟨hcz63_0, hcz63_1, hcz63_2, hcz63_3, hcz63_4, hcz63_5, hfz63_0, hfz63_1, hfz63_2, hfz63_3, hfz63_4, hfz63_5⟩ := cells6 (show w61.heap[gb173]? = some (.cells #[.int .i64 0, .int .i64 0, .slice none 0 0, .int .i64 0, .bool false, .bool false] _ (0, 0)) from BK173.out)))
           refine bodyPost_ret (results_ct rfl _ _ gb173 24 #[.int .i64 t180, .int .i64 t181, .slice (some ⟨go51, 0, none⟩) x189002_17.length co51, .int .i64 t207, .bool t186, .bool t187] (0, 0) _ rfl (by (with_reducible repeat apply pK); refine blk_put (cs := #[.int .i64 t180, .int .i64 t181, .slice (some ⟨go51, 0, none⟩) x189002_17.length co51, .int .i64 t207, .bool t186, .bool false]) ?_ 5 _ rfl; (with_reducible repeat apply pK); refine blk_put (cs := #[.int .i64 t180, .int .i64 t181, .slice (some ⟨go51, 0, none⟩) x189002_17.length co51, .int .i64 t207, .bool false, .bool false]) ?_ 4 _ rfl; (with_reducible repeat apply pK); refine blk_put (cs := #[.int .i64 t180, .int .i64 t181, .slice (some ⟨go51, 0, none⟩) x189002_17.length co51, .int .i64 0, .bool false, .bool false]) ?_ 3 _ rfl; (with_reducible repeat apply pK); refine blk_put (cs := #[.int .i64 t180, .int .i64 t181, .slice none 0 0, .int .i64 0, .bool false, .bool false]) ?_ 2 _ rfl; (with_reducible repeat apply pK); refine blk_put (cs := #[.int .i64 t180, .int .i64 0, .slice none 0 0, .int .i64 0, .bool false, .bool false]) ?_ 1 _ rfl; (with_reducible repeat apply pK); refine blk_put (cs := #[.int .i64 0, .int .i64 0, .slice none 0 0, .int .i64 0, .bool false, .bool false]) ?_ 0 _ rfl; (with_reducible repeat apply pK); refine blk_far ?_ NB173_188.out _; (with_reducible repeat apply pK); exact BK173.out) Tryd.underlying24 rfl (by kernel_rfl)) rfl ?_
           exact ⟨_, _, by first | rfl | (simp [errW_none, errW_some] <;> rfl) | (simp [*, errW_none, errW_some] <;> rfl), Kd.V_mono (Kd.R_V (by (with_reducible repeat apply pR); exact Kd.R_mono (Kd.R_far (p := ⟨gb173, 5, none⟩) (Kd.R_far (p := ⟨gb173, 4, none⟩) (Kd.R_far (p := ⟨gb173, 3, none⟩) (Kd.R_far (p := ⟨gb173, 2, none⟩) (Kd.R_far (p := ⟨gb173, 1, none⟩) (Kd.R_far (p := ⟨gb173, 0, none⟩) (Kd.R_far (p := ⟨gb188, 3, none⟩) (Kd.R_types (Kd.R_types HO_189002.out BK188.out (by decide)) BK173.out (by decide)) (fun _ hk => hk.1.2) (.int .i64 t207)) (fun _ hk => hk.2) (.int .i64 t180)) (fun _ hk => hk.2) (.int .i64 t181)) (fun _ hk => hk.2) (.slice (some ⟨go51, 0, none⟩) x189002_17.length co51)) (fun _ hk => hk.2) (.int .i64 t207)) (fun _ hk => hk.2) (.bool t186)) (fun _ hk => hk.2) (.bool t187)) (fun _ hk => hk.1.1))) (fun k_ hk => by first | exact ⟨(.inr (hk.1)), hk.2⟩ | exact (.inr (hk))), Kd.R_V (Kd.R_nil _ _ _ 0 _), bl_⟩
          ·rw [if_neg c50] at H
           exact absurd H (by simp)
         ·rw [if_neg c49] at H
          exact absurd H (by simp)
     ·have H1 : ((edit_Deny.f a0_0 a0_1 l0_2 a0_3 false a0_5 (some q179) t176).bind fun bt208 => (some (bt208.1, bt208.2.1, bt208.2.2.1, bt208.2.2.2.1, bt208.2.2.2.2.1, bt208.2.2.2.2.2.1, bt208.2.2.2.2.2.2.1, bt208.2.2.2.2.2.2.2))) = some (r1, r2, r3, r4, r5, r6, r7, r8) := by rw [if_neg (show ¬ (some q179).isNone = true by simp)] at H; exact H
      clear H
      have H := H1
      clear H1
      try simp only [errW_none, errW_some]
      replace H := Option.bind_eq_some_iff.mp H
      obtain ⟨⟨t208, t209, t210, t213, t214, t215, t216, t217⟩, A640, H⟩ := H
      replace H : (some (t208, t209, t210, t213, t214, t215, t216, t217)) = some (r1, r2, r3, r4, r5, r6, r7, r8) := H
      have A64 := Aside0.mk A640
      clear A640
      simp only [Option.some.injEq, Prod.mk.injEq] at H
      obtain ⟨rfl, rfl, rfl, rfl, rfl, rfl, rfl, rfl⟩ := H
      have hnb65 := NB172_173.out
      have hnc65 := NB173_172.out
      obtain ⟨hcz66_0, hcz66_1, hcz66_2, hcz66_3, hcz66_4, hcz66_5, hfz66_0, hfz66_1, hfz66_2, hfz66_3, hfz66_4, hfz66_5⟩ := cells6 (show wc.heap[gb172]? = some (.cells #[.int .i64 a0_0, .int .i64 a0_1, .slice A0_2 l0_2.length c0_2, .int .i64 a0_3, .bool false, .bool a0_5] _ (0, 0)) from BK172.out)
      go_wp2_with (first | ((with_reducible refine gate_callee (f := 54) rfl ?_); refine goesL_ (some 25) rfl rfl Tryd.func54 (by kernel_rfl) rfl #[.agg #[.int .i64 a0_0, .int .i64 a0_1, .slice A0_2 l0_2.length c0_2, .int .i64 a0_3, .bool false, .bool a0_5], .int .u8 a1] rfl ag_ ?_; (with_reducible refine (edit_fits.calls kj2 a0_0 a0_1 _ _ l0_2 a0_3 false a0_5 a1 (some q179) t176 _ ?side1 ?side2 A16.out).mono ?_); (case side1 => repeat (first | exact (Kd.V_reads' HO_173002.out).2.2 | (with_reducible apply pC))); (case side2 => exact (Kd.V_reads' HO_173002.out).2.1); rintro e w67 ⟨v177, rfl, ho0, hb⟩; refine ⟨_, rfl, ?_⟩; have n0_ := Aside0.mk (Kd.V_below (by (with_reducible repeat apply pV); exact HO_173002.out) hb); have n1_ := Aside0.mk (Kd.V_lower (Kd.V_mono (ok' := fun k_ => (P0_2_ k_ ∨ w.heap.size ≤ k_) ∧ k_ ≠ gb172 ∧ k_ ≠ gb173) ho0 (fun k_ hk_ => ⟨(.inr (Nat.le_trans (below_size bl_) hk_)), (Kd.freshB (g := gb172) (o := .cells #[.int .i64 a0_0, .int .i64 a0_1, .slice A0_2 l0_2.length c0_2, .int .i64 a0_3, .bool false, .bool a0_5] 24 (0, 0)) (by (with_reducible repeat apply pK); exact BK172.out) k_ hk_), (Kd.freshB (g := gb173) (o := .cells #[.int .i64 0, .int .i64 0, .slice none 0 0, .int .i64 0, .bool false, .bool false] 24 (0, 0)) (by (with_reducible repeat apply pK); exact BK173.out) k_ hk_)⟩)) (below_size bl_)); have n2_ := Aside0.mk (blk_below (g := gb172) (o := .cells #[.int .i64 a0_0, .int .i64 a0_1, .slice A0_2 l0_2.length c0_2, .int .i64 a0_3, .bool false, .bool a0_5] 24 (0, 0)) (by (with_reducible repeat apply pK); exact BK172.out) hb); have n3_ := Aside0.mk (blk_below (g := gb173) (o := .cells #[.int .i64 0, .int .i64 0, .slice none 0 0, .int .i64 0, .bool false, .bool false] 24 (0, 0)) (by (with_reducible repeat apply pK); exact BK173.out) hb); have n4_ := Aside0.mk (below_step bl_ hb); clear HO_173002; clear BK172; clear BK173; clear HB; have HO_173002 := n0_; have HO178 := n1_; have BK172 := n2_; have BK173 := n3_; have HB := n4_; clear n0_ n1_ n2_ n3_ n4_; (try clear hb); (try clear hb2); (try clear hk); (try clear hi); (try clear ho0); (try simp only [errW_none, errW_some]); obtain ⟨hcz68_0, hcz68_1, hcz68_2, hcz68_3, hcz68_4, hcz68_5, hfz68_0, hfz68_1, hfz68_2, hfz68_3, hfz68_4, hfz68_5⟩ := cells6 (show w67.heap[gb172]? = some (.cells #[.int .i64 a0_0, .int .i64 a0_1, .slice A0_2 l0_2.length c0_2, .int .i64 a0_3, .bool false, .bool a0_5] _ (0, 0)) from BK172.out); obtain ⟨Ao69, co69, eo69⟩ := Kd.V_slice HO178.out; subst eo69) | ((with_reducible refine gate_callee (f := 34) rfl ?_); refine goesL_ (some 30) rfl rfl Tryd.func34 (by kernel_rfl) rfl #[.agg #[.int .i64 a0_0, .int .i64 a0_1, .slice A0_2 l0_2.length c0_2, .int .i64 a0_3, .bool false, .bool a0_5], errW (.slice Ao69 t176.length co69) (some q179)] rfl ag_ ?_; (with_reducible refine (edit_Deny.calls a0_0 a0_1 _ _ l0_2 a0_3 false a0_5 (some q179) _ _ t176 t208 t209 t210 t213 t214 t215 t216 t217 _ ?side1 ?side2 ?side3 ?side4 A64.out).mono ?_); (case side1 => repeat (first | exact (Kd.V_reads' HO_173002.out).2.2 | (with_reducible apply pC))); (case side2 => exact (Kd.V_reads' HO_173002.out).2.1); (case side3 => repeat (first | exact (Kd.V_reads' HO178.out).2.2 | (with_reducible apply pC))); (case side4 => exact (Kd.V_reads' HO178.out).2.1); rintro e w70 ⟨v211, v218, rfl, ho0, ho1, hb⟩; refine ⟨_, rfl, ?_⟩; have n0_ := Aside0.mk (Kd.V_elder' (by (with_reducible repeat apply pV); exact HO_173002.out) (Kd.R_base ho0) hb); have n1_ := Aside0.mk (Kd.V_elder' (by (with_reducible repeat apply pV); exact HO178.out) (Kd.R_base ho0) hb); have n2_ := Aside0.mk (Kd.R_lower (Kd.R_newM (M := fun k_ => (w.heap.size ≤ k_)) (Kd.R_mono (ok' := fun k_ => True) ho0 (fun _ hk_ => trivial)) (below_size bl_) (fun k_ h_ => h_)) (below_size bl_)); have n3_ := Aside0.mk (Kd.V_lower (Kd.V_mono (ok' := fun k_ => (P0_2_ k_ ∨ w.heap.size ≤ k_) ∧ some k_ ≠ (v211 : Value).ownBlock ∧ k_ ≠ gb172 ∧ k_ ≠ gb173) ho1 (fun k_ hk_ => ⟨(.inr (Nat.le_trans (below_size bl_) hk_.1)), hk_.2, (Kd.freshB (g := gb172) (o := .cells #[.int .i64 a0_0, .int .i64 a0_1, .slice A0_2 l0_2.length c0_2, .int .i64 a0_3, .bool false, .bool a0_5] 24 (0, 0)) (by (with_reducible repeat apply pK); exact BK172.out) k_ hk_.1), (Kd.freshB (g := gb173) (o := .cells #[.int .i64 0, .int .i64 0, .slice none 0 0, .int .i64 0, .bool false, .bool false] 24 (0, 0)) (by (with_reducible repeat apply pK); exact BK173.out) k_ hk_.1)⟩)) (below_size bl_)); have n4_ := Aside0.mk (blk_below (g := gb172) (o := .cells #[.int .i64 a0_0, .int .i64 a0_1, .slice A0_2 l0_2.length c0_2, .int .i64 a0_3, .bool false, .bool a0_5] 24 (0, 0)) (by (with_reducible repeat apply pK); exact BK172.out) hb); have n5_ := Aside0.mk (blk_below (g := gb173) (o := .cells #[.int .i64 0, .int .i64 0, .slice none 0 0, .int .i64 0, .bool false, .bool false] 24 (0, 0)) (by (with_reducible repeat apply pK); exact BK173.out) hb); have n6_ := Aside0.mk (below_step bl_ hb); clear HO_173002; clear HO178; clear BK172; clear BK173; clear HB; have HO_173002 := n0_; have HO178 := n1_; have HO212 := n2_; have HO219 := n3_; have BK172 := n4_; have BK173 := n5_; have HB := n6_; clear n0_ n1_ n2_ n3_ n4_ n5_ n6_; (try clear hb); (try clear hb2); (try clear hk); (try clear hi); (try clear ho0); (try clear ho1); (try simp only [errW_none, errW_some]); obtain ⟨hcz71_0, hcz71_1, hcz71_2, hcz71_3, hcz71_4, hcz71_5, hfz71_0, hfz71_1, hfz71_2, hfz71_3, hfz71_4, hfz71_5⟩ := cells6 (show w70.heap[gb173]? = some (.cells #[.int .i64 0, .int .i64 0, .slice none 0 0, .int .i64 0, .bool false, .bool false] _ (0, 0)) from BK173.out); obtain ⟨Ao72, co72, eo72⟩ := Kd.R_slice HO212.out; subst eo72))
      refine bodyPost_ret (results_ct rfl _ _ gb173 24 #[.int .i64 t208, .int .i64 t209, .slice Ao72 t210.length co72, .int .i64 t213, .bool t214, .bool t215] (0, 0) _ rfl (by (with_reducible repeat apply pK); refine blk_put (cs := #[.int .i64 t208, .int .i64 t209, .slice Ao72 t210.length co72, .int .i64 t213, .bool t214, .bool false]) ?_ 5 _ rfl; (with_reducible repeat apply pK); refine blk_put (cs := #[.int .i64 t208, .int .i64 t209, .slice Ao72 t210.length co72, .int .i64 t213, .bool false, .bool false]) ?_ 4 _ rfl; (with_reducible repeat apply pK); refine blk_put (cs := #[.int .i64 t208, .int .i64 t209, .slice Ao72 t210.length co72, .int .i64 0, .bool false, .bool false]) ?_ 3 _ rfl; (with_reducible repeat apply pK); refine blk_put (cs := #[.int .i64 t208, .int .i64 t209, .slice none 0 0, .int .i64 0, .bool false, .bool false]) ?_ 2 _ rfl; (with_reducible repeat apply pK); refine blk_put (cs := #[.int .i64 t208, .int .i64 0, .slice none 0 0, .int .i64 0, .bool false, .bool false]) ?_ 1 _ rfl; (with_reducible repeat apply pK); refine blk_put (cs := #[.int .i64 0, .int .i64 0, .slice none 0 0, .int .i64 0, .bool false, .bool false]) ?_ 0 _ rfl; (with_reducible repeat apply pK); exact BK173.out) Tryd.underlying24 rfl (by kernel_rfl)) rfl ?_
      exact ⟨_, _, by first | rfl | (simp [errW_none, errW_some] <;> rfl) | (simp [*, errW_none, errW_some] <;> rfl), Kd.V_mono (Kd.R_V (by (with_reducible repeat apply pR); exact Kd.R_mono (Kd.R_far (p := ⟨gb173, 5, none⟩) (Kd.R_far (p := ⟨gb173, 4, none⟩) (Kd.R_far (p := ⟨gb173, 3, none⟩) (Kd.R_far (p := ⟨gb173, 2, none⟩) (Kd.R_far (p := ⟨gb173, 1, none⟩) (Kd.R_far (p := ⟨gb173, 0, none⟩) (Kd.R_types HO212.out BK173.out (by decide)) (fun _ hk => hk.2) (.int .i64 t208)) (fun _ hk => hk.2) (.int .i64 t209)) (fun _ hk => hk.2) (.slice Ao72 t210.length co72)) (fun _ hk => hk.2) (.int .i64 t213)) (fun _ hk => hk.2) (.bool t214)) (fun _ hk => hk.2) (.bool t215)) (fun _ hk => hk.1.1))) (fun k_ hk => by first | exact ⟨(.inr (hk.1)), hk.2⟩ | exact (.inr (hk))), by (with_reducible repeat apply pV); exact Kd.V_mono (Kd.V_far (p := ⟨gb173, 5, none⟩) (Kd.V_far (p := ⟨gb173, 4, none⟩) (Kd.V_far (p := ⟨gb173, 3, none⟩) (Kd.V_far (p := ⟨gb173, 2, none⟩) (Kd.V_far (p := ⟨gb173, 1, none⟩) (Kd.V_far (p := ⟨gb173, 0, none⟩) (Kd.V_mono HO219.out (fun k_ hk => (⟨hk, hk.2.2.2⟩ : _ ∧ k_ ≠ gb173))) (fun _ hk => hk.2) (.int .i64 t208)) (fun _ hk => hk.2) (.int .i64 t209)) (fun _ hk => hk.2) (.slice Ao72 t210.length co72)) (fun _ hk => hk.2) (.int .i64 t213)) (fun _ hk => hk.2) (.bool t214)) (fun _ hk => hk.2) (.bool t215)) (fun _ hk => hk.1.1), bl_⟩

end Go.Proofs.YtggecanpjkpkiaaDoor.P
