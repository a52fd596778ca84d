/- The functions of the seat's laws as plain Lean functions, and that Go's code comes to just their answers. Written by pp.py (wip/tools), a program of this session, on the kit's print. -/
import Derived.Test.YtapcfcagjlmgjaaDoorPx0
import Derived.Test.YtapcfcagjlmgjaaDoorPx6
namespace Go.Proofs.YtapcfcagjlmgjaaDoor.P
open Go.RowKit Go.Proofs.YtapcfcagjlmgjaaDoorW.PrintWords Go.Proofs.YtapcfcagjlmgjaaDoorW.PrintLast Go.Proofs.YtapcfcagjlmgjaaDoorW.PrintMore
attribute [local go_sem] max2_int min2_int max_two min_two max_three min_three max_four min_four   -- for this text's walks alone
attribute [local go_sem] Instr.field asAgg
set_option linter.unusedVariables false
set_option linter.unusedSimpArgs false

/-! ### shutterref10_Right: function 15 -/
mutual
def shutterref10_Right.j0 : Nat → Bool → Int → Int → List (S44) → Int → Bool → Bool → Option (Bool)
 | 0, _, _, _, _, _, _, _ => none
 | k + 1, x33, x213000, x213001, x213002, x213003, x213004, x213005 => if x33 = true then (some false) else (shutterref10_Right.l0 k 0 x213000 x213001 x213002 x213003 x213004 x213005)
def shutterref10_Right.l0 : Nat → Int → Int → Int → List (S44) → Int → Bool → Bool → Option (Bool)
 | 0, _, _, _, _, _, _, _ => none
 | k + 1, x3, x213000, x213001, x213002, x213003, x213004, x213005 => if x3 < (x213002.length : Int) then (if 0 ≤ x3 then ((shutterref10_Cell.f ((rd_T44 x213002 x3).f0) ((rd_T44 x213002 x3).f1.f0) ((rd_T44 x213002 x3).f1.f1) ((rd_T44 x213002 x3).f1.f2) ((rd_T44 x213002 x3).f1.f3) ((rd_T44 x213002 x3).f2)).bind fun t215 => (if t215 = true then (shutterref10_Right.l0 k (wrap64 (x3 + 1)) x213000 x213001 x213002 x213003 x213004 x213005) else (some false))) else (none)) else (some true)
end
def shutterref10_Right.f (k : Nat) (a0_0 : Int) (a0_1 : Int) (l0_2 : List (S44)) (a0_3 : Int) (a0_4 : Bool) (a0_5 : Bool) : Option (Bool) := (shutterref10_Sized.f a0_0 a0_1).bind fun t213 => (if t213 = true then (if (l0_2.length : Int) = (wrap64 (a0_0 * a0_1)) then (if a0_3 < 0 then (shutterref10_Right.j0 k true a0_0 a0_1 l0_2 a0_3 a0_4 a0_5) else (shutterref10_Right.j0 k (decide (a0_3 ≥ (l0_2.length : Int))) a0_0 a0_1 l0_2 a0_3 a0_4 a0_5)) else (shutterref10_Right.j0 k true a0_0 a0_1 l0_2 a0_3 a0_4 a0_5)) else (shutterref10_Right.j0 k true a0_0 a0_1 l0_2 a0_3 a0_4 a0_5))
theorem shutterref10_Right.mono_l : ∀ k, (∀ y0 y1 y2 y3 y4 y5 y6, LeO (shutterref10_Right.j0 k y0 y1 y2 y3 y4 y5 y6) (shutterref10_Right.j0 (k + 1) y0 y1 y2 y3 y4 y5 y6)) ∧ (∀ y0 y1 y2 y3 y4 y5 y6, LeO (shutterref10_Right.l0 k y0 y1 y2 y3 y4 y5 y6) (shutterref10_Right.l0 (k + 1) y0 y1 y2 y3 y4 y5 y6))
 | 0 => ⟨fun _ _ _ _ _ _ _ r h => by simp [shutterref10_Right.j0] at h, fun _ _ _ _ _ _ _ r h => by simp [shutterref10_Right.l0] at h⟩
 | k + 1 => by
  obtain ⟨ih0, ih1⟩ := shutterref10_Right.mono_l k
  refine ⟨?_, ?_⟩
  ·intro y0 y1 y2 y3 y4 y5 y6
   unfold shutterref10_Right.j0
   repeat' first
   | (with_reducible exact ih0 _ _ _ _ _ _ _)
   | (with_reducible exact ih1 _ _ _ _ _ _ _)
   | (with_reducible exact LeO.refl _)
   | (with_reducible exact LeO.none _)
   | (with_reducible refine LeO.ite ?_ ?_)
   | (with_reducible refine LeO.bind ?_ (fun _ => ?_))
   | exact ih0 _ _ _ _ _ _ _
   | exact ih1 _ _ _ _ _ _ _
   | exact LeO.none _
   | refine LeO.ite ?_ ?_
   | refine LeO.bind ?_ (fun _ => ?_)
  ·intro y0 y1 y2 y3 y4 y5 y6
   unfold shutterref10_Right.l0
   repeat' first
   | (with_reducible exact ih0 _ _ _ _ _ _ _)
   | (with_reducible exact ih1 _ _ _ _ _ _ _)
   | (with_reducible exact LeO.refl _)
   | (with_reducible exact LeO.none _)
   | (with_reducible refine LeO.ite ?_ ?_)
   | (with_reducible refine LeO.bind ?_ (fun _ => ?_))
   | exact ih0 _ _ _ _ _ _ _
   | exact ih1 _ _ _ _ _ _ _
   | exact LeO.none _
   | refine LeO.ite ?_ ?_
   | refine LeO.bind ?_ (fun _ => ?_)
theorem shutterref10_Right.mono : ∀ a0 a1 a2 a3 a4 a5 k, LeO (shutterref10_Right.f k a0 a1 a2 a3 a4 a5) (shutterref10_Right.f (k + 1) a0 a1 a2 a3 a4 a5) := by
 intro a0 a1 a2 a3 a4 a5 k
 obtain ⟨ih0, ih1⟩ := shutterref10_Right.mono_l k
 unfold shutterref10_Right.f
 repeat' first
   | (with_reducible exact ih0 _ _ _ _ _ _ _)
   | (with_reducible exact ih1 _ _ _ _ _ _ _)
   | (with_reducible exact LeO.refl _)
   | (with_reducible exact LeO.none _)
   | (with_reducible refine LeO.ite ?_ ?_)
   | (with_reducible refine LeO.bind ?_ (fun _ => ?_))
   | exact ih0 _ _ _ _ _ _ _
   | exact ih1 _ _ _ _ _ _ _
   | exact LeO.none _
   | refine LeO.ite ?_ ?_
   | refine LeO.bind ?_ (fun _ => ?_)
set_option maxHeartbeats 8000000 in
set_option maxRecDepth 100000 in
theorem shutterref10_Right.calls (k : Nat) (a0_0 : Int) (a0_1 : Int) (A0_2 : Option Addr) (c0_2 : Nat) (l0_2 : List (S44)) (a0_3 : Int) (a0_4 : Bool) (a0_5 : Bool) (r : Bool) (w : World) (hr0_2 : Kd.C k44 w A0_2 l0_2.length l0_2) (hc0_2 : l0_2.length ≤ c0_2) (h : shutterref10_Right.f k a0_0 a0_1 l0_2 a0_3 a0_4 a0_5 = some r) :
  Calls Tryd.prog 15 #[.agg #[.int .i64 a0_0, .int .i64 a0_1, .slice A0_2 l0_2.length c0_2, .int .i64 a0_3, .bool a0_4, .bool a0_5]] w fun e w' => e = .returned (.bool r) ∧ Below w.heap.size w w' := by
 have hu24 := Tryd.underlying24
 have hu44 := Tryd.underlying44
 have HR0_2 := Aside0.mk hr0_2
 have HC0_2 := Aside0.mk hc0_2
 clear hr0_2 hc0_2
 have HB := Aside0.mk (Below.refl w.heap.size w)
 have H : ((shutterref10_Sized.f a0_0 a0_1).bind fun t213 => (if t213 = true then (if (l0_2.length : Int) = (wrap64 (a0_0 * a0_1)) then (if a0_3 < 0 then (shutterref10_Right.j0 k true a0_0 a0_1 l0_2 a0_3 a0_4 a0_5) else (shutterref10_Right.j0 k (decide (a0_3 ≥ (l0_2.length : Int))) a0_0 a0_1 l0_2 a0_3 a0_4 a0_5)) else (shutterref10_Right.j0 k true a0_0 a0_1 l0_2 a0_3 a0_4 a0_5)) else (shutterref10_Right.j0 k true a0_0 a0_1 l0_2 a0_3 a0_4 a0_5))) = some r := h
 clear h
 have HC2 := Aside0.mk H
 clear H
 go_enter Tryd.func15, Tryd.ntmps15
 go_upto_region 1 with (first | ((with_reducible refine gate_dst (N := 1) rfl ?_); (try (refine gate_guard (by rfl) ?_; dsimp only)); refine box_event ?hg (N := 1) ?hd (cs := #[.int .i64 a0_0, .int .i64 a0_1, .slice A0_2 l0_2.length c0_2, .int .i64 a0_3, .bool a0_4, .bool a0_5]) (t := 24) ?hr ?_; (case hd => rfl); (case hg => rfl); (case hr => first | (go_simp; done) | (go_simp; rfl)); intro gb212 hg w3 hbox hb; have n0_ := Aside0.mk (below_step bl_ hb); have n1_ := Aside0.mk (hbox); have n2_ := Aside0.mk ((le_new hg (below_size bl_) : w.heap.size ≤ gb212)); have n3_ := Aside0.mk ((le_new hg (below_size bl_) : w.heap.size ≤ gb212)); clear HB; have HB := n0_; have BK212 := n1_; have GW212 := n2_; have GE212 := n3_; clear n0_ n1_ n2_ n3_; clear hb hbox hg))
 (try simp only [Act.put, List.setIfInBounds_toArray, List.set_cons_zero, List.set_cons_succ])
 go_cut [33] (fun v33 wc => ∃ (kq : Nat) (x33_1 : Bool), v33 = .bool x33_1 ∧ Aside0 (shutterref10_Right.j0 kq x33_1 a0_0 a0_1 l0_2 a0_3 a0_4 a0_5 = some r) ∧ Aside0 (kq ≤ k) ∧ Aside0 (wc.heap[gb212]? = some (.cells #[.int .i64 a0_0, .int .i64 a0_1, (.slice A0_2 l0_2.length c0_2), .int .i64 a0_3, .bool a0_4, .bool a0_5] 24 (0, 0))) ∧ Aside0 (Below w.heap.size w wc))
 case first =>
  have H := HC2.out
  clear HC2
  replace H := Option.bind_eq_some_iff.mp H
  obtain ⟨t213, A40, H⟩ := H
  replace H : (if t213 = true then (if (l0_2.length : Int) = (wrap64 (a0_0 * a0_1)) then (if a0_3 < 0 then (shutterref10_Right.j0 k true a0_0 a0_1 l0_2 a0_3 a0_4 a0_5) else (shutterref10_Right.j0 k (decide (a0_3 ≥ (l0_2.length : Int))) a0_0 a0_1 l0_2 a0_3 a0_4 a0_5)) else (shutterref10_Right.j0 k true a0_0 a0_1 l0_2 a0_3 a0_4 a0_5)) else (shutterref10_Right.j0 k true a0_0 a0_1 l0_2 a0_3 a0_4 a0_5)) = some r := H
  have A4 := Aside0.mk A40
  clear A40
  by_cases c5 : t213 = true
  ·subst c5
   have H1 : (if (l0_2.length : Int) = (wrap64 (a0_0 * a0_1)) then (if a0_3 < 0 then (shutterref10_Right.j0 k true a0_0 a0_1 l0_2 a0_3 a0_4 a0_5) else (shutterref10_Right.j0 k (decide (a0_3 ≥ (l0_2.length : Int))) a0_0 a0_1 l0_2 a0_3 a0_4 a0_5)) else (shutterref10_Right.j0 k true a0_0 a0_1 l0_2 a0_3 a0_4 a0_5)) = some r := by rw [if_pos rfl] at H; exact H
   clear H
   have H := H1
   clear H1
   by_cases c6 : (l0_2.length : Int) = (wrap64 (a0_0 * a0_1))
   ·rw [if_pos c6] at H
    have c6b0 : ((l0_2.length : Int) == (wrap64 (a0_0 * a0_1))) = true := beq_iff_eq.mpr c6
    have c6b1 : ((l0_2.length : Int) != (wrap64 (a0_0 * a0_1))) = false := bne_eq_false_iff_eq.mpr c6
    clear c6
    (first | rw [c6b0] | (simp only [i64_w, i32_w]; rw [c6b0]) | skip)
    by_cases c7 : a0_3 < 0
    ·rw [if_pos c7] at H
     have c7b0 : decide (a0_3 < 0) = true := decide_eq_true c7
     clear c7
     have H' := Aside0.mk H
     clear H
     obtain ⟨hcz8_0, hcz8_1, hcz8_2, hcz8_3, hcz8_4, hcz8_5, hfz8_0, hfz8_1, hfz8_2, hfz8_3, hfz8_4, hfz8_5⟩ := cells6 (show w3.heap[gb212]? = some (.cells #[.int .i64 a0_0, .int .i64 a0_1, .slice A0_2 l0_2.length c0_2, .int .i64 a0_3, .bool a0_4, .bool a0_5] _ (0, 0)) from BK212.out)
     go_wp2_with (first | ((with_reducible refine gate_callee (f := 23) rfl ?_); refine goesL_ (some 8) rfl rfl Tryd.func23 (by kernel_rfl) rfl #[.int .i64 a0_0, .int .i64 a0_1] rfl ag_ ?_; (with_reducible refine (shutterref10_Sized.calls a0_0 a0_1 true _ A4.out).mono ?_); rintro e w' ⟨rfl, ⟨nd, rfl⟩⟩; refine ⟨_, rfl, ?_⟩))
     go_meet
     case rel => exact ⟨_, (true), (by first | rfl | (simp; done) | (simp [*]; done)), H', ⟨by first | omega | exact Nat.le_refl _⟩, ⟨by (with_reducible repeat apply pK); exact BK212.out⟩, ⟨bl_⟩⟩
    ·rw [if_neg c7] at H
     have c7b0 : decide (a0_3 < 0) = false := decide_eq_false c7
     clear c7
     have H' := Aside0.mk H
     clear H
     obtain ⟨hcz9_0, hcz9_1, hcz9_2, hcz9_3, hcz9_4, hcz9_5, hfz9_0, hfz9_1, hfz9_2, hfz9_3, hfz9_4, hfz9_5⟩ := cells6 (show w3.heap[gb212]? = some (.cells #[.int .i64 a0_0, .int .i64 a0_1, .slice A0_2 l0_2.length c0_2, .int .i64 a0_3, .bool a0_4, .bool a0_5] _ (0, 0)) from BK212.out)
     go_wp2_with (first | ((with_reducible refine gate_callee (f := 23) rfl ?_); refine goesL_ (some 8) rfl rfl Tryd.func23 (by kernel_rfl) rfl #[.int .i64 a0_0, .int .i64 a0_1] rfl ag_ ?_; (with_reducible refine (shutterref10_Sized.calls a0_0 a0_1 true _ A4.out).mono ?_); rintro e w' ⟨rfl, ⟨nd, rfl⟩⟩; refine ⟨_, rfl, ?_⟩))
     go_meet
     case rel => exact ⟨_, (decide (a0_3 ≥ (l0_2.length : Int))), (by first | rfl | (simp; done) | (simp [*]; done)), H', ⟨by first | omega | exact Nat.le_refl _⟩, ⟨by (with_reducible repeat apply pK); exact BK212.out⟩, ⟨bl_⟩⟩
   ·rw [if_neg c6] at H
    have c6b0 : ((l0_2.length : Int) == (wrap64 (a0_0 * a0_1))) = false := beq_eq_false_iff_ne.mpr c6
    have c6b1 : ((l0_2.length : Int) != (wrap64 (a0_0 * a0_1))) = true := bne_iff_ne.mpr c6
    (first | rw [c6b0] | (simp only [i64_w, i32_w]; rw [c6b0]) | skip)
    have H' := Aside0.mk H
    clear H
    obtain ⟨hcz10_0, hcz10_1, hcz10_2, hcz10_3, hcz10_4, hcz10_5, hfz10_0, hfz10_1, hfz10_2, hfz10_3, hfz10_4, hfz10_5⟩ := cells6 (show w3.heap[gb212]? = some (.cells #[.int .i64 a0_0, .int .i64 a0_1, .slice A0_2 l0_2.length c0_2, .int .i64 a0_3, .bool a0_4, .bool a0_5] _ (0, 0)) from BK212.out)
    go_wp2_with (first | ((with_reducible refine gate_callee (f := 23) rfl ?_); refine goesL_ (some 8) rfl rfl Tryd.func23 (by kernel_rfl) rfl #[.int .i64 a0_0, .int .i64 a0_1] rfl ag_ ?_; (with_reducible refine (shutterref10_Sized.calls a0_0 a0_1 true _ A4.out).mono ?_); rintro e w' ⟨rfl, ⟨nd, rfl⟩⟩; refine ⟨_, rfl, ?_⟩))
    go_meet
    case rel => exact ⟨_, (true), (by first | rfl | (simp; done) | (simp [*]; done)), H', ⟨by first | omega | exact Nat.le_refl _⟩, ⟨by (with_reducible repeat apply pK); exact BK212.out⟩, ⟨bl_⟩⟩
  ·replace c5 := Bool.eq_false_iff.mpr c5
   subst c5
   have H1 : (shutterref10_Right.j0 k true a0_0 a0_1 l0_2 a0_3 a0_4 a0_5) = some r := by rw [if_neg (show ¬ (false = true) by decide)] at H; exact H
   clear H
   have H := H1
   clear H1
   have H' := Aside0.mk H
   clear H
   obtain ⟨hcz11_0, hcz11_1, hcz11_2, hcz11_3, hcz11_4, hcz11_5, hfz11_0, hfz11_1, hfz11_2, hfz11_3, hfz11_4, hfz11_5⟩ := cells6 (show w3.heap[gb212]? = some (.cells #[.int .i64 a0_0, .int .i64 a0_1, .slice A0_2 l0_2.length c0_2, .int .i64 a0_3, .bool a0_4, .bool a0_5] _ (0, 0)) from BK212.out)
   go_wp2_with (first | ((with_reducible refine gate_callee (f := 23) rfl ?_); refine goesL_ (some 8) rfl rfl Tryd.func23 (by kernel_rfl) rfl #[.int .i64 a0_0, .int .i64 a0_1] rfl ag_ ?_; (with_reducible refine (shutterref10_Sized.calls a0_0 a0_1 false _ A4.out).mono ?_); rintro e w' ⟨rfl, ⟨nd, rfl⟩⟩; refine ⟨_, rfl, ?_⟩))
   go_meet
   case rel => exact ⟨_, (true), (by first | rfl | (simp; done) | (simp [*]; done)), H', ⟨by first | omega | exact Nat.le_refl _⟩, ⟨by (with_reducible repeat apply pK); exact BK212.out⟩, ⟨bl_⟩⟩
 case rest =>
  clear HC2
  try clear c1
  try clear c2
  try clear p2
  try clear c5
  try clear c6
  try clear c6b0
  try clear c6b1
  try clear p6
  try clear c7
  try clear c7b0
  try clear hcz10_0
  try clear hcz10_1
  try clear hcz10_2
  try clear hcz10_3
  try clear hcz10_4
  try clear hcz10_5
  try clear hcz11_0
  try clear hcz11_1
  try clear hcz11_2
  try clear hcz11_3
  try clear hcz11_4
  try clear hcz11_5
  try clear hcz8_0
  try clear hcz8_1
  try clear hcz8_2
  try clear hcz8_3
  try clear hcz8_4
  try clear hcz8_5
  try clear hcz9_0
  try clear hcz9_1
  try clear hcz9_2
  try clear hcz9_3
  try clear hcz9_4
  try clear hcz9_5
  try clear hfz10_0
  try clear hfz10_1
  try clear hfz10_2
  try clear hfz10_3
  try clear hfz10_4
  try clear hfz10_5
  try clear hfz11_0
  try clear hfz11_1
  try clear hfz11_2
  try clear hfz11_3
  try clear hfz11_4
  try clear hfz11_5
  try clear hfz8_0
  try clear hfz8_1
  try clear hfz8_2
  try clear hfz8_3
  try clear hfz8_4
  try clear hfz8_5
  try clear hfz9_0
  try clear hfz9_1
  try clear hfz9_2
  try clear hfz9_3
  try clear hfz9_4
  try clear hfz9_5
  obtain ⟨kq, x33_1, rfl, HA, HJ1, BK212, HB⟩ := hcut
  cases kq with
  | zero => exact absurd HA.out (by simp [shutterref10_Right.j0])
  | succ kj1 =>
   have H := HA.out
   clear HA
   simp only [shutterref10_Right.j0] at H
   by_cases c12 : x33_1 = true
   ·subst c12
    have H1 : (some false) = some r := by rw [if_pos rfl] at H; exact H
    clear H
    have H := H1
    clear H1
    obtain rfl := Option.some.inj H
    go_wp2
    go_ret
    exact ⟨by first | rfl | (simp [errW_none, errW_some] <;> rfl) | (simp [*, errW_none, errW_some] <;> rfl), bl_⟩
   ·replace c12 := Bool.eq_false_iff.mpr c12
    subst c12
    have H1 : (shutterref10_Right.l0 kj1 0 a0_0 a0_1 l0_2 a0_3 a0_4 a0_5) = some r := by rw [if_neg (show ¬ (false = true) by decide)] at H; exact H
    clear H
    have H := H1
    clear H1
    have H' := Aside0.mk H
    clear H
    go_wp2
    go_loopg [3] kj1 (fun kq v3 w' => ∃ (x3_2 : Int), v3 = .int .i64 x3_2 ∧ Aside0 (shutterref10_Right.l0 kq x3_2 a0_0 a0_1 l0_2 a0_3 a0_4 a0_5 = some r) ∧ Aside0 (kq ≤ kj1) ∧ Aside0 (w'.heap[gb212]? = some (.cells #[.int .i64 a0_0, .int .i64 a0_1, (.slice A0_2 l0_2.length c0_2), .int .i64 a0_3, .bool a0_4, .bool a0_5] 24 (0, 0))) ∧ Aside0 (Below w.heap.size w w'))
    case atStart => exact ⟨(0), (by first | rfl | (simp; done) | (simp [*]; done)), H', ⟨Nat.le_refl _⟩, ⟨by (with_reducible repeat apply pK); exact BK212.out⟩, ⟨bl_⟩⟩
    case round =>
     clear H'
     try clear c1
     try clear c2
     try clear p2
     try clear c5
     try clear c6
     try clear c6b0
     try clear c6b1
     try clear p6
     try clear c7
     try clear c7b0
     try clear c12
     try clear hcz10_0
     try clear hcz10_1
     try clear hcz10_2
     try clear hcz10_3
     try clear hcz10_4
     try clear hcz10_5
     try clear hcz11_0
     try clear hcz11_1
     try clear hcz11_2
     try clear hcz11_3
     try clear hcz11_4
     try clear hcz11_5
     try clear hcz8_0
     try clear hcz8_1
     try clear hcz8_2
     try clear hcz8_3
     try clear hcz8_4
     try clear hcz8_5
     try clear hcz9_0
     try clear hcz9_1
     try clear hcz9_2
     try clear hcz9_3
     try clear hcz9_4
     try clear hcz9_5
     try clear hfz10_0
     try clear hfz10_1
     try clear hfz10_2
     try clear hfz10_3
     try clear hfz10_4
     try clear hfz10_5
     try clear hfz11_0
     try clear hfz11_1
     try clear hfz11_2
     try clear hfz11_3
     try clear hfz11_4
     try clear hfz11_5
     try clear hfz8_0
     try clear hfz8_1
     try clear hfz8_2
     try clear hfz8_3
     try clear hfz8_4
     try clear hfz8_5
     try clear hfz9_0
     try clear hfz9_1
     try clear hfz9_2
     try clear hfz9_3
     try clear hfz9_4
     try clear hfz9_5
     try clear p2
     try clear p6
     obtain ⟨x3_2, rfl, HA, HK2, BK212, HB⟩ := hrel
     cases gk with
     | zero => exact absurd HA.out (by simp [shutterref10_Right.l0])
     | succ k2 =>
      have H := HA.out
      clear HA
      simp only [shutterref10_Right.l0] at H
      by_cases c13 : x3_2 < (l0_2.length : Int)
      ·rw [if_pos c13] at H
       have c13b0 : decide (x3_2 < (l0_2.length : Int)) = true := decide_eq_true c13
       clear c13
       by_cases c14 : 0 ≤ x3_2
       ·rw [if_pos c14] at H
        have c14b0 : decide (0 ≤ x3_2) = true := decide_eq_true c14
        clear c14
        replace H := Option.bind_eq_some_iff.mp H
        obtain ⟨t215, A150, H⟩ := H
        replace H : (if t215 = true then (shutterref10_Right.l0 k2 (wrap64 (x3_2 + 1)) a0_0 a0_1 l0_2 a0_3 a0_4 a0_5) else (some false)) = some r := H
        have A15 := Aside0.mk A150
        clear A150
        by_cases c16 : t215 = true
        ·subst c16
         have H1 : (shutterref10_Right.l0 k2 (wrap64 (x3_2 + 1)) a0_0 a0_1 l0_2 a0_3 a0_4 a0_5) = some r := by rw [if_pos rfl] at H; exact H
         clear H
         have H := H1
         clear H1
         have H' := Aside0.mk H
         clear H
         obtain ⟨hcz17_0, hcz17_1, hcz17_2, hcz17_3, hcz17_4, hcz17_5, hfz17_0, hfz17_1, hfz17_2, hfz17_3, hfz17_4, hfz17_5⟩ := cells6 (show wr.heap[gb212]? = some (.cells #[.int .i64 a0_0, .int .i64 a0_1, .slice A0_2 l0_2.length c0_2, .int .i64 a0_3, .bool a0_4, .bool a0_5] _ (0, 0)) from BK212.out)
         have p214 : 0 ≤ (x3_2 : Int) := of_decide_eq_true (by first | (with_reducible assumption) | assumption)
         have q214 : x3_2 < (l0_2.length : Int) := of_decide_eq_true (by first | (with_reducible assumption) | assumption)
         obtain ⟨ad214, e214, hx214_0, hx214_1, hx214_2, hx214_3, hx214_4, hx214_5⟩ := at_T44 HR0_2.out x3_2 p214 q214
         cases e214
         replace hx214_0 := (HB.out.cell (World.block_lt_of_cell? w _ hx214_0)).trans hx214_0
         replace hx214_1 := (HB.out.cell (World.block_lt_of_cell? w _ hx214_1)).trans hx214_1
         replace hx214_2 := (HB.out.cell (World.block_lt_of_cell? w _ hx214_2)).trans hx214_2
         replace hx214_3 := (HB.out.cell (World.block_lt_of_cell? w _ hx214_3)).trans hx214_3
         replace hx214_4 := (HB.out.cell (World.block_lt_of_cell? w _ hx214_4)).trans hx214_4
         replace hx214_5 := (HB.out.cell (World.block_lt_of_cell? w _ hx214_5)).trans hx214_5
         replace p214 := eq_true p214
         replace q214 := eq_true q214
         go_wp2_with (first | ((with_reducible refine gate_callee (f := 24) rfl ?_); refine goesL_ (some 46) rfl rfl Tryd.func24 (by kernel_rfl) rfl #[.agg #[.bool ((rd_T44 l0_2 x3_2).f0), .bool ((rd_T44 l0_2 x3_2).f1.f0), .bool ((rd_T44 l0_2 x3_2).f1.f1), .int .i64 ((rd_T44 l0_2 x3_2).f1.f2), .bool ((rd_T44 l0_2 x3_2).f1.f3), .int .u8 ((rd_T44 l0_2 x3_2).f2)]] rfl ag_ ?_; (with_reducible refine (shutterref10_Cell.calls ((rd_T44 l0_2 x3_2).f0) ((rd_T44 l0_2 x3_2).f1.f0) ((rd_T44 l0_2 x3_2).f1.f1) ((rd_T44 l0_2 x3_2).f1.f2) ((rd_T44 l0_2 x3_2).f1.f3) ((rd_T44 l0_2 x3_2).f2) true _ A15.out).mono ?_); rintro e w18 ⟨rfl, hb⟩; refine ⟨_, rfl, ?_⟩; have n0_ := Aside0.mk (blk_below (g := gb212) (o := .cells #[.int .i64 a0_0, .int .i64 a0_1, .slice (some ad214) l0_2.length c0_2, .int .i64 a0_3, .bool a0_4, .bool a0_5] 24 (0, 0)) (by (with_reducible repeat apply pK); exact BK212.out) hb); have n1_ := Aside0.mk (below_step bl_ hb); clear BK212; clear HB; have BK212 := n0_; have HB := n1_; clear n0_ n1_; (try clear hb); (try clear hb2); (try clear hk); (try clear hi)))
         go_roundg k2
         case measure => have := HJ1.out; have := HK2.out; omega
         case rel => exact ⟨(wrap64 (x3_2 + 1)), (by first | rfl | (simp; done) | (simp [*]; done)), H', ⟨by have := HJ1.out; have := HK2.out; omega⟩, ⟨by (with_reducible repeat apply pK); exact BK212.out⟩, ⟨bl_⟩⟩
        ·replace c16 := Bool.eq_false_iff.mpr c16
         subst c16
         have H1 : (some false) = some r := by rw [if_neg (show ¬ (false = true) by decide)] at H; exact H
         clear H
         have H := H1
         clear H1
         obtain rfl := Option.some.inj H
         obtain ⟨hcz19_0, hcz19_1, hcz19_2, hcz19_3, hcz19_4, hcz19_5, hfz19_0, hfz19_1, hfz19_2, hfz19_3, hfz19_4, hfz19_5⟩ := cells6 (show wr.heap[gb212]? = some (.cells #[.int .i64 a0_0, .int .i64 a0_1, .slice A0_2 l0_2.length c0_2, .int .i64 a0_3, .bool a0_4, .bool a0_5] _ (0, 0)) from BK212.out)
         have p214 : 0 ≤ (x3_2 : Int) := of_decide_eq_true (by first | (with_reducible assumption) | assumption)
         have q214 : x3_2 < (l0_2.length : Int) := of_decide_eq_true (by first | (with_reducible assumption) | assumption)
         obtain ⟨ad214, e214, hx214_0, hx214_1, hx214_2, hx214_3, hx214_4, hx214_5⟩ := at_T44 HR0_2.out x3_2 p214 q214
         cases e214
         replace hx214_0 := (HB.out.cell (World.block_lt_of_cell? w _ hx214_0)).trans hx214_0
         replace hx214_1 := (HB.out.cell (World.block_lt_of_cell? w _ hx214_1)).trans hx214_1
         replace hx214_2 := (HB.out.cell (World.block_lt_of_cell? w _ hx214_2)).trans hx214_2
         replace hx214_3 := (HB.out.cell (World.block_lt_of_cell? w _ hx214_3)).trans hx214_3
         replace hx214_4 := (HB.out.cell (World.block_lt_of_cell? w _ hx214_4)).trans hx214_4
         replace hx214_5 := (HB.out.cell (World.block_lt_of_cell? w _ hx214_5)).trans hx214_5
         replace p214 := eq_true p214
         replace q214 := eq_true q214
         go_wp2_with (first | ((with_reducible refine gate_callee (f := 24) rfl ?_); refine goesL_ (some 46) rfl rfl Tryd.func24 (by kernel_rfl) rfl #[.agg #[.bool ((rd_T44 l0_2 x3_2).f0), .bool ((rd_T44 l0_2 x3_2).f1.f0), .bool ((rd_T44 l0_2 x3_2).f1.f1), .int .i64 ((rd_T44 l0_2 x3_2).f1.f2), .bool ((rd_T44 l0_2 x3_2).f1.f3), .int .u8 ((rd_T44 l0_2 x3_2).f2)]] rfl ag_ ?_; (with_reducible refine (shutterref10_Cell.calls ((rd_T44 l0_2 x3_2).f0) ((rd_T44 l0_2 x3_2).f1.f0) ((rd_T44 l0_2 x3_2).f1.f1) ((rd_T44 l0_2 x3_2).f1.f2) ((rd_T44 l0_2 x3_2).f1.f3) ((rd_T44 l0_2 x3_2).f2) false _ A15.out).mono ?_); rintro e w20 ⟨rfl, hb⟩; refine ⟨_, rfl, ?_⟩; have n0_ := Aside0.mk (blk_below (g := gb212) (o := .cells #[.int .i64 a0_0, .int .i64 a0_1, .slice (some ad214) l0_2.length c0_2, .int .i64 a0_3, .bool a0_4, .bool a0_5] 24 (0, 0)) (by (with_reducible repeat apply pK); exact BK212.out) hb); have n1_ := Aside0.mk (below_step bl_ hb); clear BK212; clear HB; have BK212 := n0_; have HB := n1_; clear n0_ n1_; (try clear hb); (try clear hb2); (try clear hk); (try clear hi)))
         go_ret
         exact ⟨by first | rfl | (simp [errW_none, errW_some] <;> rfl) | (simp [*, errW_none, errW_some] <;> rfl), bl_⟩
       ·rw [if_neg c14] at H
        exact absurd H (by simp)
      ·rw [if_neg c13] at H
       have c13b0 : decide (x3_2 < (l0_2.length : Int)) = false := decide_eq_false c13
       clear c13
       obtain rfl := Option.some.inj H
       obtain ⟨hcz21_0, hcz21_1, hcz21_2, hcz21_3, hcz21_4, hcz21_5, hfz21_0, hfz21_1, hfz21_2, hfz21_3, hfz21_4, hfz21_5⟩ := cells6 (show wr.heap[gb212]? = some (.cells #[.int .i64 a0_0, .int .i64 a0_1, .slice A0_2 l0_2.length c0_2, .int .i64 a0_3, .bool a0_4, .bool a0_5] _ (0, 0)) from BK212.out)
       go_wp2
       go_ret
       exact ⟨by first | rfl | (simp [errW_none, errW_some] <;> rfl) | (simp [*, errW_none, errW_some] <;> rfl), bl_⟩

/-! ### shutterref10_Few: function 9 -/
def shutterref10_Few.f (k : Nat) (a0_0 : Int) (a0_1 : Int) (l0_2 : List (S44)) (a0_3 : Int) (a0_4 : Bool) (a0_5 : Bool) : Option (Bool) := if (l0_2.length : Int) ≤ 200 then ((shutterref10_Right.f k a0_0 a0_1 l0_2 a0_3 a0_4 a0_5).bind fun t217 => (some t217)) else (some false)
theorem shutterref10_Few.mono : ∀ a0 a1 a2 a3 a4 a5 k, LeO (shutterref10_Few.f k a0 a1 a2 a3 a4 a5) (shutterref10_Few.f (k + 1) a0 a1 a2 a3 a4 a5) := by
 intro a0 a1 a2 a3 a4 a5 k
 unfold shutterref10_Few.f
 repeat' first
   | (with_reducible exact shutterref10_Right.mono _ _ _ _ _ _ _)
   | (with_reducible exact LeO.refl _)
   | (with_reducible exact LeO.none _)
   | (with_reducible refine LeO.ite ?_ ?_)
   | (with_reducible refine LeO.bind ?_ (fun _ => ?_))
   | exact shutterref10_Right.mono _ _ _ _ _ _ _
   | exact LeO.none _
   | refine LeO.ite ?_ ?_
   | refine LeO.bind ?_ (fun _ => ?_)
set_option maxHeartbeats 8000000 in
set_option maxRecDepth 100000 in
theorem shutterref10_Few.calls (k : Nat) (a0_0 : Int) (a0_1 : Int) (A0_2 : Option Addr) (c0_2 : Nat) (l0_2 : List (S44)) (a0_3 : Int) (a0_4 : Bool) (a0_5 : Bool) (r : Bool) (w : World) (hr0_2 : Kd.C k44 w A0_2 l0_2.length l0_2) (hc0_2 : l0_2.length ≤ c0_2) (h : shutterref10_Few.f k a0_0 a0_1 l0_2 a0_3 a0_4 a0_5 = some r) :
  Calls Tryd.prog 9 #[.agg #[.int .i64 a0_0, .int .i64 a0_1, .slice A0_2 l0_2.length c0_2, .int .i64 a0_3, .bool a0_4, .bool a0_5]] w fun e w' => e = .returned (.bool r) ∧ Below w.heap.size w w' := by
 have hu24 := Tryd.underlying24
 have HR0_2 := Aside0.mk hr0_2
 have HC0_2 := Aside0.mk hc0_2
 clear hr0_2 hc0_2
 have HB := Aside0.mk (Below.refl w.heap.size w)
 have H : (if (l0_2.length : Int) ≤ 200 then ((shutterref10_Right.f k a0_0 a0_1 l0_2 a0_3 a0_4 a0_5).bind fun t217 => (some t217)) else (some false)) = some r := h
 clear h
 by_cases c2 : (l0_2.length : Int) ≤ 200
 ·rw [if_pos c2] at H
  have c2b0 : decide ((l0_2.length : Int) ≤ 200) = true := decide_eq_true c2
  have c2b1 : decide (l0_2.length ≤ 200) = true := decide_eq_true (by omega)
  clear c2
  replace H := Option.bind_eq_some_iff.mp H
  obtain ⟨t217, A30, H⟩ := H
  replace H : (some t217) = some r := H
  have A3 := Aside0.mk A30
  clear A30
  obtain rfl := Option.some.inj H
  go_enter Tryd.func9, Tryd.ntmps9
  go_wp2_with (first | ((with_reducible refine gate_dst (N := 1) rfl ?_); refine box_event ?hg (N := 1) ?hd (cs := #[.int .i64 a0_0, .int .i64 a0_1, .slice A0_2 l0_2.length c0_2, .int .i64 a0_3, .bool a0_4, .bool a0_5]) (t := 24) ?hr ?_; (case hd => rfl); (case hg => rfl); (case hr => first | (go_simp; done) | (go_simp; rfl)); intro gb216 hg w4 hbox hb; have n0_ := Aside0.mk (below_step bl_ hb); have n1_ := Aside0.mk (hbox); have n2_ := Aside0.mk ((le_new hg (below_size bl_) : w.heap.size ≤ gb216)); have n3_ := Aside0.mk ((le_new hg (below_size bl_) : w.heap.size ≤ gb216)); clear HB; have HB := n0_; have BK216 := n1_; have GW216 := n2_; have GE216 := n3_; clear n0_ n1_ n2_ n3_; clear hb hbox hg; obtain ⟨hcz5_0, hcz5_1, hcz5_2, hcz5_3, hcz5_4, hcz5_5, hfz5_0, hfz5_1, hfz5_2, hfz5_3, hfz5_4, hfz5_5⟩ := cells6 (show w4.heap[gb216]? = some (.cells #[.int .i64 a0_0, .int .i64 a0_1, .slice A0_2 l0_2.length c0_2, .int .i64 a0_3, .bool a0_4, .bool a0_5] _ (0, 0)) from BK216.out)) | (go_at_call 15; (with_reducible refine (shutterref10_Right.calls k a0_0 a0_1 _ _ l0_2 a0_3 a0_4 a0_5 t217 _ ?side1 ?side2 A3.out).mono ?_); (case side1 => repeat (first | exact (Kd.C_below HR0_2.out HB.out) | (with_reducible apply pC))); (case side2 => exact HC0_2.out); rintro e w6 ⟨rfl, hb⟩; have n0_ := Aside0.mk (blk_below (g := gb216) (o := .cells #[.int .i64 a0_0, .int .i64 a0_1, .slice A0_2 l0_2.length c0_2, .int .i64 a0_3, .bool a0_4, .bool a0_5] 24 (0, 0)) (by (with_reducible repeat apply pK); exact BK216.out) hb); have n1_ := Aside0.mk (below_step bl_ hb); clear BK216; clear HB; have BK216 := n0_; have HB := n1_; clear n0_ n1_; (try clear hb); (try clear hb2); (try clear hk); (try clear hi)))
  go_ret
  exact ⟨by first | rfl | (simp [errW_none, errW_some] <;> rfl) | (simp [*, errW_none, errW_some] <;> rfl), bl_⟩
 ·rw [if_neg c2] at H
  have c2b0 : decide ((l0_2.length : Int) ≤ 200) = false := decide_eq_false c2
  have c2b1 : decide (l0_2.length ≤ 200) = false := decide_eq_false (by omega)
  clear c2
  obtain rfl := Option.some.inj H
  go_enter Tryd.func9, Tryd.ntmps9
  go_wp2_with (first | ((with_reducible refine gate_dst (N := 1) rfl ?_); refine box_event ?hg (N := 1) ?hd (cs := #[.int .i64 a0_0, .int .i64 a0_1, .slice A0_2 l0_2.length c0_2, .int .i64 a0_3, .bool a0_4, .bool a0_5]) (t := 24) ?hr ?_; (case hd => rfl); (case hg => rfl); (case hr => first | (go_simp; done) | (go_simp; rfl)); intro gb216 hg w7 hbox hb; have n0_ := Aside0.mk (below_step bl_ hb); have n1_ := Aside0.mk (hbox); have n2_ := Aside0.mk ((le_new hg (below_size bl_) : w.heap.size ≤ gb216)); have n3_ := Aside0.mk ((le_new hg (below_size bl_) : w.heap.size ≤ gb216)); clear HB; have HB := n0_; have BK216 := n1_; have GW216 := n2_; have GE216 := n3_; clear n0_ n1_ n2_ n3_; clear hb hbox hg; obtain ⟨hcz8_0, hcz8_1, hcz8_2, hcz8_3, hcz8_4, hcz8_5, hfz8_0, hfz8_1, hfz8_2, hfz8_3, hfz8_4, hfz8_5⟩ := cells6 (show w7.heap[gb216]? = some (.cells #[.int .i64 a0_0, .int .i64 a0_1, .slice A0_2 l0_2.length c0_2, .int .i64 a0_3, .bool a0_4, .bool a0_5] _ (0, 0)) from BK216.out)))
  go_ret
  exact ⟨by first | rfl | (simp [errW_none, errW_some] <;> rfl) | (simp [*, errW_none, errW_some] <;> rfl), bl_⟩

/-! ### shutterref10_Copy: function 18 -/
def shutterref10_Copy.f (a0_0 : Int) (a0_1 : Int) (l0_2 : List (S44)) (a0_3 : Int) (a0_4 : Bool) (a0_5 : Bool) : Option (Int × Int × (List (S44)) × Int × Bool × Bool) := (some (([] : List (S44)) : List (S44))).bind fun y220 => (if y220.length + l0_2.length < 3518437208883 then (some (a0_0, a0_1, (y220 ++ l0_2), a0_3, a0_4, a0_5)) else (none))
set_option maxHeartbeats 8000000 in
set_option maxRecDepth 100000 in
theorem shutterref10_Copy.calls (a0_0 : Int) (a0_1 : Int) (A0_2 : Option Addr) (c0_2 : Nat) (l0_2 : List (S44)) (a0_3 : Int) (a0_4 : Bool) (a0_5 : Bool) (r1 : Int) (r2 : Int) (r3 : List (S44)) (r4 : Int) (r5 : Bool) (r6 : Bool) (w : World) (hr0_2 : Kd.C k44 w A0_2 l0_2.length l0_2) (hc0_2 : l0_2.length ≤ c0_2) (h : shutterref10_Copy.f a0_0 a0_1 l0_2 a0_3 a0_4 a0_5 = some (r1, r2, r3, r4, r5, r6)) :
  Calls Tryd.prog 18 #[.agg #[.int .i64 a0_0, .int .i64 a0_1, .slice A0_2 l0_2.length c0_2, .int .i64 a0_3, .bool a0_4, .bool a0_5]] w fun e w' => ∃ v2_ : Value, e = .returned (.agg #[.int .i64 r1, .int .i64 r2, v2_, .int .i64 r4, .bool r5, .bool r6]) ∧ Kd.R k44 44 w' w.heap.size (fun _ => True) v2_ r3 ∧ Below w.heap.size w w' := by
 have hu24 := Tryd.underlying24
 have HR0_2 := Aside0.mk hr0_2
 have HC0_2 := Aside0.mk hc0_2
 clear hr0_2 hc0_2
 have HB := Aside0.mk (Below.refl w.heap.size w)
 have H : ((some (([] : List (S44)) : List (S44))).bind fun y220 => (if y220.length + l0_2.length < 3518437208883 then (some (a0_0, a0_1, (y220 ++ l0_2), a0_3, a0_4, a0_5)) else (none))) = some (r1, r2, r3, r4, r5, r6) := h
 clear h
 obtain ⟨y220, hy220⟩ : ∃ y_ : List (S44), y_ = (([] : List (S44))) := ⟨_, rfl⟩
 replace H : (if y220.length + l0_2.length < 3518437208883 then (some (a0_0, a0_1, (y220 ++ l0_2), a0_3, a0_4, a0_5)) else (none)) = some (r1, r2, r3, r4, r5, r6) := by first | (rw [hy220]; with_reducible exact H) | (have H2_ := (Option.bind_some _ _).symm.trans H; rw [hy220]; with_reducible exact H2_) | (have H2_ := (Option.bind_some _ _).symm.trans H; with_reducible exact H2_) | with_reducible exact H | (rw [hy220]; exact H) | exact H
 have Ny220 := Aside0.mk hy220
 clear hy220
 by_cases c2 : y220.length + l0_2.length < 3518437208883
 ·rw [if_pos c2] at H
  have LMc2 := Aside0.mk c2
  clear c2
  obtain ⟨y223, hy223⟩ : ∃ y_ : List (S44), y_ = (y220 ++ l0_2) := ⟨_, rfl⟩
  replace H : (some (a0_0, a0_1, y223, a0_3, a0_4, a0_5)) = some (r1, r2, r3, r4, r5, r6) := by first | (rw [hy223]; with_reducible exact H) | (have H2_ := (Option.bind_some _ _).symm.trans H; rw [hy223]; with_reducible exact H2_) | (have H2_ := (Option.bind_some _ _).symm.trans H; with_reducible exact H2_) | with_reducible exact H | (rw [hy223]; exact H) | exact H
  have Ny223 := Aside0.mk hy223
  clear hy223
  simp only [Option.some.injEq, Prod.mk.injEq] at H
  obtain ⟨rfl, rfl, rfl, rfl, rfl, rfl⟩ := H
  go_enter Tryd.func18, Tryd.ntmps18
  go_wp2_with (first | ((with_reducible refine gate_dst (N := 1) rfl ?_); refine box_event ?hg (N := 1) ?hd (cs := #[.int .i64 a0_0, .int .i64 a0_1, .slice A0_2 l0_2.length c0_2, .int .i64 a0_3, .bool a0_4, .bool a0_5]) (t := 24) ?hr ?_; (case hd => rfl); (case hg => rfl); (case hr => first | (go_simp; done) | (go_simp; rfl)); intro gb218 hg w3 hbox hb; have n0_ := Aside0.mk (below_step bl_ hb); have n1_ := Aside0.mk (hbox); have n2_ := Aside0.mk ((le_new hg (below_size bl_) : w.heap.size ≤ gb218)); have n3_ := Aside0.mk ((le_new hg (below_size bl_) : w.heap.size ≤ gb218)); clear HB; have HB := n0_; have BK218 := n1_; have GW218 := n2_; have GE218 := n3_; clear n0_ n1_ n2_ n3_; clear hb hbox hg) | ((with_reducible refine gate_dst (N := 2) rfl ?_); refine box_event ?hg (N := 2) ?hd (cs := #[.int .i64 0, .int .i64 0, .slice none 0 0, .int .i64 0, .bool false, .bool false]) (t := 24) ?hr ?_; (case hd => rfl); (case hg => rfl); (case hr => first | (go_simp; done) | (go_simp; rfl)); intro gb219 hg w4 hbox hb; have n0_ := Aside0.mk (blk_below (g := gb218) (o := .cells #[.int .i64 a0_0, .int .i64 a0_1, .slice A0_2 l0_2.length c0_2, .int .i64 a0_3, .bool a0_4, .bool a0_5] 24 (0, 0)) (by (with_reducible repeat apply pK); exact BK218.out) hb); have n1_ := Aside0.mk (below_step bl_ hb); have n2_ := Aside0.mk (hbox); have n3_ := Aside0.mk ((le_new hg (below_size bl_) : w.heap.size ≤ gb219)); have n4_ := Aside0.mk ((le_new hg (below_size bl_) : w.heap.size ≤ gb219)); have n5_ := Aside0.mk ((by rw [hg]; exact Nat.ne_of_lt (blk_lt (g := gb218) (o := .cells #[.int .i64 a0_0, .int .i64 a0_1, .slice A0_2 l0_2.length c0_2, .int .i64 a0_3, .bool a0_4, .bool a0_5] 24 (0, 0)) (by (with_reducible repeat apply pK); exact BK218.out)) : gb218 ≠ gb219)); have n6_ := Aside0.mk ((by rw [hg]; exact Nat.ne_of_gt (blk_lt (g := gb218) (o := .cells #[.int .i64 a0_0, .int .i64 a0_1, .slice A0_2 l0_2.length c0_2, .int .i64 a0_3, .bool a0_4, .bool a0_5] 24 (0, 0)) (by (with_reducible repeat apply pK); exact BK218.out)) : gb219 ≠ gb218)); clear BK218; clear HB; have BK218 := n0_; have HB := n1_; have BK219 := n2_; have GW219 := n3_; have GE219 := n4_; have NB218_219 := n5_; have NB219_218 := n6_; clear n0_ n1_ n2_ n3_ n4_ n5_ n6_; clear hb hbox hg) | ((with_reducible refine gate_dst (N := 3) rfl ?_); refine Kd.R_lit k44 _ 44 ?hg (N := 3) ?hd (xs := ([] : List (S44))) (inner := []) (ok := fun _ => True) (okp := fun _ => True) ?hr ?hp (fun _ hk => hk) trivial (Below.refl _ _) (Nat.le_refl _) (by simp) ?_; (case hd => rfl); (case hg => rfl); (case hr => first | (go_simp; done) | (go_simp; rfl)); (case hp => exact (Reps.none _ _)); intro v221 w5 ho6 hb hg_ hnew_; clear hg_ hnew_; (first | rw [← Ny220.out] at ho6 | (simp only [Int.reduceToNat] at ho6; rw [← Ny220.out] at ho6)); have n0_ := Aside0.mk (Kd.R_lower ho6 (below_size bl_)); have n1_ := Aside0.mk (blk_below (g := gb218) (o := .cells #[.int .i64 a0_0, .int .i64 a0_1, .slice A0_2 l0_2.length c0_2, .int .i64 a0_3, .bool a0_4, .bool a0_5] 24 (0, 0)) (by (with_reducible repeat apply pK); exact BK218.out) hb); have n2_ := Aside0.mk (blk_below (g := gb219) (o := .cells #[.int .i64 0, .int .i64 0, .slice none 0 0, .int .i64 0, .bool false, .bool false] 24 (0, 0)) (by (with_reducible repeat apply pK); exact BK219.out) hb); have n3_ := Aside0.mk (below_step bl_ hb); clear BK218; clear BK219; clear HB; have HO222 := n0_; have BK218 := n1_; have BK219 := n2_; have HB := n3_; clear n0_ n1_ n2_ n3_; clear hb ho6; have hnb7 := NB218_219.out; have hnc7 := NB219_218.out; obtain ⟨hcz8_0, hcz8_1, hcz8_2, hcz8_3, hcz8_4, hcz8_5, hfz8_0, hfz8_1, hfz8_2, hfz8_3, hfz8_4, hfz8_5⟩ := cells6 (show w5.heap[gb218]? = some (.cells #[.int .i64 a0_0, .int .i64 a0_1, .slice A0_2 l0_2.length c0_2, .int .i64 a0_3, .bool a0_4, .bool a0_5] _ (0, 0)) from BK218.out)) | ((with_reducible refine gate_builtin (b := .append) (xs := #[.tmp 3, .tmp 5]) rfl ?_); at_builtin; refine Kd.R_append_rows k44 (w0 := w) w.heap.size rfl (.tmp 3) (.tmp 5) 22 44 (.agg #[(.bool false), (.bool false), (.bool false), (.int .i64 0), (.bool false), (.int .u8 0)]) 40 rfl Tryd.underlying22 info44 rfl (by decide) (by omega) v221 y220 l0_2 _ _ _ (fun _ => True) (fun _ => False) rfl rfl ?aO ?aR (fun _ _ h => h) (fun _ h => h.elim) ?aF ?aB ?aS ?aL ?_; (case aR => repeat (first | exact (Kd.C_below HR0_2.out HB.out) | (with_reducible apply pC))); (case aB => exact bl_); (case aF => exact (fun _ _ => trivial)); (case aO => exact (by (with_reducible repeat apply pR); exact HO222.out)); (case aS => exact (below_size bl_)); (case aL => have := LMc2.out; omega); intro v224 w9 ho hb hg hat; rw [← Ny223.out] at ho; have n0_ := Aside0.mk (blk_grown (g := gb218) (o := .cells #[.int .i64 a0_0, .int .i64 a0_1, .slice A0_2 l0_2.length c0_2, .int .i64 a0_3, .bool a0_4, .bool a0_5] 24 (0, 0)) (by (with_reducible repeat apply pK); exact BK218.out) hg (Kd.R_ne HO222.out BK218.out (by decide))); have n1_ := Aside0.mk (blk_grown (g := gb219) (o := .cells #[.int .i64 0, .int .i64 0, .slice none 0 0, .int .i64 0, .bool false, .bool false] 24 (0, 0)) (by (with_reducible repeat apply pK); exact BK219.out) hg (Kd.R_ne HO222.out BK219.out (by decide))); have n2_ := Aside0.mk (hb); have n3_ := Aside0.mk (ho); clear BK218; clear BK219; clear HB; clear HO222; have BK218 := n0_; have BK219 := n1_; have HB := n2_; have HO225 := n3_; clear n0_ n1_ n2_ n3_; clear ho hb hg hat; obtain ⟨Ao10, co10, eo10⟩ := Kd.R_slice HO225.out; subst eo10; obtain ⟨hcz11_0, hcz11_1, hcz11_2, hcz11_3, hcz11_4, hcz11_5, hfz11_0, hfz11_1, hfz11_2, hfz11_3, hfz11_4, hfz11_5⟩ := cells6 (show w9.heap[gb218]? = some (.cells #[.int .i64 a0_0, .int .i64 a0_1, .slice A0_2 l0_2.length c0_2, .int .i64 a0_3, .bool a0_4, .bool a0_5] _ (0, 0)) from BK218.out); obtain ⟨hcz12_0, hcz12_1, hcz12_2, hcz12_3, hcz12_4, hcz12_5, hfz12_0, hfz12_1, hfz12_2, hfz12_3, hfz12_4, hfz12_5⟩ := cells6 (show w9.heap[gb219]? = some (.cells #[.int .i64 0, .int .i64 0, .slice none 0 0, .int .i64 0, .bool false, .bool false] _ (0, 0)) from BK219.out)))
  refine bodyPost_ret (results_cell_row rfl _ _ gb219 24 #[.int .i64 a0_0, .int .i64 a0_1, .slice Ao10 y223.length co10, .int .i64 a0_3, .bool a0_4, .bool a0_5] (0, 0) _ rfl (by (with_reducible repeat apply pK); refine blk_put (cs := #[.int .i64 a0_0, .int .i64 a0_1, .slice Ao10 y223.length co10, .int .i64 a0_3, .bool a0_4, .bool false]) ?_ 5 _ rfl; (with_reducible repeat apply pK); refine blk_put (cs := #[.int .i64 a0_0, .int .i64 a0_1, .slice Ao10 y223.length co10, .int .i64 a0_3, .bool false, .bool false]) ?_ 4 _ rfl; (with_reducible repeat apply pK); refine blk_put (cs := #[.int .i64 a0_0, .int .i64 a0_1, .slice Ao10 y223.length co10, .int .i64 0, .bool false, .bool false]) ?_ 3 _ rfl; (with_reducible repeat apply pK); refine blk_put (cs := #[.int .i64 a0_0, .int .i64 a0_1, .slice none 0 0, .int .i64 0, .bool false, .bool false]) ?_ 2 _ rfl; (with_reducible repeat apply pK); refine blk_put (cs := #[.int .i64 a0_0, .int .i64 0, .slice none 0 0, .int .i64 0, .bool false, .bool false]) ?_ 1 _ rfl; (with_reducible repeat apply pK); refine blk_put (cs := #[.int .i64 0, .int .i64 0, .slice none 0 0, .int .i64 0, .bool false, .bool false]) ?_ 0 _ rfl; (with_reducible repeat apply pK); refine blk_far ?_ NB219_218.out _; (with_reducible repeat apply pK); exact BK219.out) Tryd.underlying24 rfl (by kernel_rfl)) rfl ?_
  exact ⟨_, by first | rfl | (simp [errW_none, errW_some] <;> rfl) | (simp [*, errW_none, errW_some] <;> rfl), by (with_reducible repeat apply pR); exact Kd.R_mono (Kd.R_far (p := ⟨gb219, 5, none⟩) (Kd.R_far (p := ⟨gb219, 4, none⟩) (Kd.R_far (p := ⟨gb219, 3, none⟩) (Kd.R_far (p := ⟨gb219, 2, none⟩) (Kd.R_far (p := ⟨gb219, 1, none⟩) (Kd.R_far (p := ⟨gb219, 0, none⟩) (Kd.R_far (p := ⟨gb218, 2, none⟩) (Kd.R_types (Kd.R_types HO225.out BK218.out (by decide)) BK219.out (by decide)) (fun _ hk => hk.1.2) (.slice Ao10 y223.length co10)) (fun _ hk => hk.2) (.int .i64 a0_0)) (fun _ hk => hk.2) (.int .i64 a0_1)) (fun _ hk => hk.2) (.slice Ao10 y223.length co10)) (fun _ hk => hk.2) (.int .i64 a0_3)) (fun _ hk => hk.2) (.bool a0_4)) (fun _ hk => hk.2) (.bool a0_5)) (fun _ hk => trivial), bl_⟩
 ·rw [if_neg c2] at H
  exact absurd H (by simp)

/-! ### shutterref11_mod: function 26 -/
def shutterref11_mod.l0 : Nat → Int → Int → Option (Int)
 | 0, _, _ => none
 | k + 1, x0, x1 => if x0 < 0 then (shutterref11_mod.l0 k (wrap64 (x0 + x1)) x1) else (if x1 = 0 then (none) else (some (Int.tmod x0 x1)))
def shutterref11_mod.f (k : Nat) (a0 : Int) (a1 : Int) : Option (Int) := shutterref11_mod.l0 k a0 a1
theorem shutterref11_mod.mono_l : ∀ k, (∀ y0 y1, LeO (shutterref11_mod.l0 k y0 y1) (shutterref11_mod.l0 (k + 1) y0 y1))
 | 0 => fun _ _ r h => by simp [shutterref11_mod.l0] at h
 | k + 1 => by
  have ih0 := shutterref11_mod.mono_l k
  ·intro y0 y1
   unfold shutterref11_mod.l0
   repeat' first
   | (with_reducible exact ih0 _ _)
   | (with_reducible exact LeO.refl _)
   | (with_reducible exact LeO.none _)
   | (with_reducible refine LeO.ite ?_ ?_)
   | (with_reducible refine LeO.bind ?_ (fun _ => ?_))
   | exact ih0 _ _
   | exact LeO.none _
   | refine LeO.ite ?_ ?_
   | refine LeO.bind ?_ (fun _ => ?_)
theorem shutterref11_mod.mono : ∀ a0 a1 k, LeO (shutterref11_mod.f k a0 a1) (shutterref11_mod.f (k + 1) a0 a1) := by
 intro a0 a1 k
 have ih0 := shutterref11_mod.mono_l k
 unfold shutterref11_mod.f
 repeat' first
   | (with_reducible exact ih0 _ _)
   | (with_reducible exact LeO.refl _)
   | (with_reducible exact LeO.none _)
   | (with_reducible refine LeO.ite ?_ ?_)
   | (with_reducible refine LeO.bind ?_ (fun _ => ?_))
   | exact ih0 _ _
   | exact LeO.none _
   | refine LeO.ite ?_ ?_
   | refine LeO.bind ?_ (fun _ => ?_)
set_option maxHeartbeats 8000000 in
set_option maxRecDepth 100000 in
theorem shutterref11_mod.calls (k : Nat) (a0 : Int) (a1 : Int) (r : Int) (w : World) (h : shutterref11_mod.f k a0 a1 = some r) :
  Calls Tryd.prog 26 #[.int .i64 a0, .int .i64 a1] w fun e w' => e = .returned (.int .i64 r) ∧ Drawn0 w w' := by
 have H : (shutterref11_mod.l0 k a0 a1) = some r := h
 clear h
 have H' := Aside0.mk H
 clear H
 go_enter Tryd.func26, Tryd.ntmps26
 go_wp2
 go_loopg [0] k (fun kq v0 w' => ∃ (x0_1 : Int), v0 = .int .i64 x0_1 ∧ Aside0 (shutterref11_mod.l0 kq x0_1 a1 = some r) ∧ Aside0 (kq ≤ k) ∧ Drawn0 w w')
 case atStart => exact ⟨(a0), (by first | rfl | (simp; done) | (simp [*]; done)), H', ⟨Nat.le_refl _⟩, by repeat (first | exact Drawn0.refl _ | apply Drawn0.step)⟩
 case round =>
  clear H'
  try clear c2
  try clear p2
  obtain ⟨x0_1, rfl, HA, HK1, ⟨m1, rfl⟩⟩ := hrel
  cases gk with
  | zero => exact absurd HA.out (by simp [shutterref11_mod.l0])
  | succ k1 =>
   have H := HA.out
   clear HA
   simp only [shutterref11_mod.l0] at H
   by_cases c3 : x0_1 < 0
   ·rw [if_pos c3] at H
    have c3b0 : decide (x0_1 < 0) = true := decide_eq_true c3
    clear c3
    have H' := Aside0.mk H
    clear H
    go_wp2
    go_roundg k1
    case measure => have := HK1.out; omega
    case rel => exact ⟨(wrap64 (x0_1 + a1)), (by first | rfl | (simp; done) | (simp [*]; done)), H', ⟨by have := HK1.out; omega⟩, by repeat (first | exact Drawn0.refl _ | apply Drawn0.step)⟩
   ·rw [if_neg c3] at H
    have c3b0 : decide (x0_1 < 0) = false := decide_eq_false c3
    clear c3
    by_cases c4 : a1 = 0
    ·rw [if_pos c4] at H
     exact absurd H (by simp)
    ·rw [if_neg c4] at H
     have c4b0 : (a1 == 0) = false := beq_eq_false_iff_ne.mpr c4
     have c4b1 : (a1 != 0) = true := bne_iff_ne.mpr c4
     obtain rfl := Option.some.inj H
     go_wp2
     go_ret
     exact ⟨by first | rfl | (simp; done) | (simp [*]; done), by repeat (first | exact Drawn0.refl _ | apply Drawn0.step)⟩

/-! ### shutterref11_first: function 25 -/
def shutterref11_first.f (k : Nat) (a0_0 : Int) (a0_1 : Int) (l0_2 : List (S44)) (a0_3 : Int) (a0_4 : Bool) (a0_5 : Bool) (a1 : Int) : Option (Int) := (shutterref11_mod.f k (wrap64 (a1 + 1)) (l0_2.length : Int)).bind fun t227 => (if 0 ≤ a1 then (if a1 < (l0_2.length : Int) then (if (rd_T44 l0_2 a1).f0 = true then (if ((rd_T44 l0_2 a1).f1.f0 = true) then (some (-1)) else (if 0 ≤ t227 then (if t227 < (l0_2.length : Int) then (if ((rd_T44 l0_2 t227).f0 = true) then (some (-1)) else (some t227)) else (none)) else (none))) else (some (-1))) else (none)) else (none))
theorem shutterref11_first.mono : ∀ a0 a1 a2 a3 a4 a5 a6 k, LeO (shutterref11_first.f k a0 a1 a2 a3 a4 a5 a6) (shutterref11_first.f (k + 1) a0 a1 a2 a3 a4 a5 a6) := by
 intro a0 a1 a2 a3 a4 a5 a6 k
 unfold shutterref11_first.f
 repeat' first
   | (with_reducible exact shutterref11_mod.mono _ _ _)
   | (with_reducible exact LeO.refl _)
   | (with_reducible exact LeO.none _)
   | (with_reducible refine LeO.ite ?_ ?_)
   | (with_reducible refine LeO.bind ?_ (fun _ => ?_))
   | exact shutterref11_mod.mono _ _ _
   | exact LeO.none _
   | refine LeO.ite ?_ ?_
   | refine LeO.bind ?_ (fun _ => ?_)
set_option maxHeartbeats 8000000 in
set_option maxRecDepth 100000 in
theorem shutterref11_first.calls (k : Nat) (a0_0 : Int) (a0_1 : Int) (A0_2 : Option Addr) (c0_2 : Nat) (l0_2 : List (S44)) (a0_3 : Int) (a0_4 : Bool) (a0_5 : Bool) (a1 : Int) (r : Int) (w : World) (hr0_2 : Kd.C k44 w A0_2 l0_2.length l0_2) (hc0_2 : l0_2.length ≤ c0_2) (h : shutterref11_first.f k a0_0 a0_1 l0_2 a0_3 a0_4 a0_5 a1 = some r) :
  Calls Tryd.prog 25 #[.agg #[.int .i64 a0_0, .int .i64 a0_1, .slice A0_2 l0_2.length c0_2, .int .i64 a0_3, .bool a0_4, .bool a0_5], .int .i64 a1] w fun e w' => e = .returned (.int .i64 r) ∧ Below w.heap.size w w' := by
 have hu24 := Tryd.underlying24
 have HR0_2 := Aside0.mk hr0_2
 have HC0_2 := Aside0.mk hc0_2
 clear hr0_2 hc0_2
 have HB := Aside0.mk (Below.refl w.heap.size w)
 have H : ((shutterref11_mod.f k (wrap64 (a1 + 1)) (l0_2.length : Int)).bind fun t227 => (if 0 ≤ a1 then (if a1 < (l0_2.length : Int) then (if (rd_T44 l0_2 a1).f0 = true then (if ((rd_T44 l0_2 a1).f1.f0 = true) then (some (-1)) else (if 0 ≤ t227 then (if t227 < (l0_2.length : Int) then (if ((rd_T44 l0_2 t227).f0 = true) then (some (-1)) else (some t227)) else (none)) else (none))) else (some (-1))) else (none)) else (none))) = some r := h
 clear h
 replace H := Option.bind_eq_some_iff.mp H
 obtain ⟨t227, A30, H⟩ := H
 replace H : (if 0 ≤ a1 then (if a1 < (l0_2.length : Int) then (if (rd_T44 l0_2 a1).f0 = true then (if ((rd_T44 l0_2 a1).f1.f0 = true) then (some (-1)) else (if 0 ≤ t227 then (if t227 < (l0_2.length : Int) then (if ((rd_T44 l0_2 t227).f0 = true) then (some (-1)) else (some t227)) else (none)) else (none))) else (some (-1))) else (none)) else (none)) = some r := H
 have A3 := Aside0.mk A30
 clear A30
 by_cases c4 : 0 ≤ a1
 ·rw [if_pos c4] at H
  have c4b0 : decide (0 ≤ a1) = true := decide_eq_true c4
  clear c4
  by_cases c5 : a1 < (l0_2.length : Int)
  ·rw [if_pos c5] at H
   have c5b0 : decide (a1 < (l0_2.length : Int)) = true := decide_eq_true c5
   clear c5
   obtain ⟨bq6, hbq6⟩ : ∃ b_ : Bool, b_ = ((rd_T44 l0_2 a1).f0) := ⟨_, rfl⟩
   replace H : (if bq6 = true then (if ((rd_T44 l0_2 a1).f1.f0 = true) then (some (-1)) else (if 0 ≤ t227 then (if t227 < (l0_2.length : Int) then (if ((rd_T44 l0_2 t227).f0 = true) then (some (-1)) else (some t227)) else (none)) else (none))) else (some (-1))) = some r := by rw [← hbq6] at H; exact H
   have Nbq6 := Aside0.mk hbq6
   clear hbq6
   by_cases c7 : bq6 = true
   ·subst c7
    have H1 : (if ((rd_T44 l0_2 a1).f1.f0 = true) then (some (-1)) else (if 0 ≤ t227 then (if t227 < (l0_2.length : Int) then (if ((rd_T44 l0_2 t227).f0 = true) then (some (-1)) else (some t227)) else (none)) else (none))) = some r := by rw [if_pos rfl] at H; exact H
    clear H
    have H := H1
    clear H1
    obtain ⟨bq8, hbq8⟩ : ∃ b_ : Bool, b_ = ((rd_T44 l0_2 a1).f1.f0) := ⟨_, rfl⟩
    replace H : (if (bq8 = true) then (some (-1)) else (if 0 ≤ t227 then (if t227 < (l0_2.length : Int) then (if ((rd_T44 l0_2 t227).f0 = true) then (some (-1)) else (some t227)) else (none)) else (none))) = some r := by rw [← hbq8] at H; exact H
    have Nbq8 := Aside0.mk hbq8
    clear hbq8
    by_cases c9 : (bq8 = true)
    ·subst c9
     have H1 : (some (-1)) = some r := by rw [if_pos rfl] at H; exact H
     clear H
     have H := H1
     clear H1
     obtain rfl := Option.some.inj H
     go_enter Tryd.func25, Tryd.ntmps25
     go_wp2_with (first | ((with_reducible refine gate_dst (N := 2) rfl ?_); refine box_event ?hg (N := 2) ?hd (cs := #[.int .i64 a0_0, .int .i64 a0_1, .slice A0_2 l0_2.length c0_2, .int .i64 a0_3, .bool a0_4, .bool a0_5]) (t := 24) ?hr ?_; (case hd => rfl); (case hg => rfl); (case hr => first | (go_simp; done) | (go_simp; rfl)); intro gb226 hg w10 hbox hb; have n0_ := Aside0.mk (below_step bl_ hb); have n1_ := Aside0.mk (hbox); have n2_ := Aside0.mk ((le_new hg (below_size bl_) : w.heap.size ≤ gb226)); have n3_ := Aside0.mk ((le_new hg (below_size bl_) : w.heap.size ≤ gb226)); clear HB; have HB := n0_; have BK226 := n1_; have GW226 := n2_; have GE226 := n3_; clear n0_ n1_ n2_ n3_; clear hb hbox hg; obtain ⟨hcz11_0, hcz11_1, hcz11_2, hcz11_3, hcz11_4, hcz11_5, hfz11_0, hfz11_1, hfz11_2, hfz11_3, hfz11_4, hfz11_5⟩ := cells6 (show w10.heap[gb226]? = some (.cells #[.int .i64 a0_0, .int .i64 a0_1, .slice A0_2 l0_2.length c0_2, .int .i64 a0_3, .bool a0_4, .bool a0_5] _ (0, 0)) from BK226.out)) | ((with_reducible refine gate_callee (f := 26) rfl ?_); refine goesL_ (some 11) rfl rfl Tryd.func26 (by kernel_rfl) rfl #[.int .i64 (wrap64 (a1 + 1)), .int .i64 (l0_2.length : Int)] rfl ag_ ?_; (with_reducible refine (shutterref11_mod.calls k (wrap64 (a1 + 1)) (l0_2.length : Int) t227 _ A3.out).mono ?_); rintro e w' ⟨rfl, ⟨nd, rfl⟩⟩; refine ⟨_, rfl, ?_⟩; have p228 : 0 ≤ (a1 : Int) := of_decide_eq_true (by first | (with_reducible assumption) | assumption); have q228 : a1 < (l0_2.length : Int) := of_decide_eq_true (by first | (with_reducible assumption) | assumption); obtain ⟨ad228, e228, hx228_0, hx228_1, hx228_2, hx228_3, hx228_4, hx228_5⟩ := at_T44 HR0_2.out a1 p228 q228; (try rw [← Nbq6.out] at hx228_0); (try rw [← Nbq8.out] at hx228_0); (try rw [← Nbq6.out] at hx228_1); (try rw [← Nbq8.out] at hx228_1); (try rw [← Nbq6.out] at hx228_2); (try rw [← Nbq8.out] at hx228_2); (try rw [← Nbq6.out] at hx228_4); (try rw [← Nbq8.out] at hx228_4); cases e228; replace hx228_0 := (HB.out.cell (World.block_lt_of_cell? w _ hx228_0)).trans hx228_0; replace hx228_1 := (HB.out.cell (World.block_lt_of_cell? w _ hx228_1)).trans hx228_1; replace hx228_2 := (HB.out.cell (World.block_lt_of_cell? w _ hx228_2)).trans hx228_2; replace hx228_3 := (HB.out.cell (World.block_lt_of_cell? w _ hx228_3)).trans hx228_3; replace hx228_4 := (HB.out.cell (World.block_lt_of_cell? w _ hx228_4)).trans hx228_4; replace hx228_5 := (HB.out.cell (World.block_lt_of_cell? w _ hx228_5)).trans hx228_5; replace p228 := eq_true p228; replace q228 := eq_true q228; have p229 : 0 ≤ (a1 : Int) := of_decide_eq_true (by first | (with_reducible assumption) | assumption); have q229 : a1 < (l0_2.length : Int) := of_decide_eq_true (by first | (with_reducible assumption) | assumption); obtain ⟨ad229, e229, hx229_0, hx229_1, hx229_2, hx229_3, hx229_4, hx229_5⟩ := at_T44 HR0_2.out a1 p229 q229; (try rw [← Nbq6.out] at hx229_0); (try rw [← Nbq8.out] at hx229_0); (try rw [← Nbq6.out] at hx229_1); (try rw [← Nbq8.out] at hx229_1); (try rw [← Nbq6.out] at hx229_2); (try rw [← Nbq8.out] at hx229_2); (try rw [← Nbq6.out] at hx229_4); (try rw [← Nbq8.out] at hx229_4); obtain rfl : ad228 = ad229 := (by injection e229); replace hx229_0 := (HB.out.cell (World.block_lt_of_cell? w _ hx229_0)).trans hx229_0; replace hx229_1 := (HB.out.cell (World.block_lt_of_cell? w _ hx229_1)).trans hx229_1; replace hx229_2 := (HB.out.cell (World.block_lt_of_cell? w _ hx229_2)).trans hx229_2; replace hx229_3 := (HB.out.cell (World.block_lt_of_cell? w _ hx229_3)).trans hx229_3; replace hx229_4 := (HB.out.cell (World.block_lt_of_cell? w _ hx229_4)).trans hx229_4; replace hx229_5 := (HB.out.cell (World.block_lt_of_cell? w _ hx229_5)).trans hx229_5; replace p229 := eq_true p229; replace q229 := eq_true q229))
     go_ret
     exact ⟨by first | rfl | (simp [errW_none, errW_some] <;> rfl) | (simp [*, errW_none, errW_some] <;> rfl), bl_⟩
    ·replace c9 := Bool.eq_false_iff.mpr c9
     subst c9
     have H1 : (if 0 ≤ t227 then (if t227 < (l0_2.length : Int) then (if ((rd_T44 l0_2 t227).f0 = true) then (some (-1)) else (some t227)) else (none)) else (none)) = some r := by rw [if_neg (show ¬ (false = true) by decide)] at H; exact H
     clear H
     have H := H1
     clear H1
     by_cases c12 : 0 ≤ t227
     ·rw [if_pos c12] at H
      have c12b0 : decide (0 ≤ t227) = true := decide_eq_true c12
      clear c12
      by_cases c13 : t227 < (l0_2.length : Int)
      ·rw [if_pos c13] at H
       have c13b0 : decide (t227 < (l0_2.length : Int)) = true := decide_eq_true c13
       clear c13
       obtain ⟨bq14, hbq14⟩ : ∃ b_ : Bool, b_ = ((rd_T44 l0_2 t227).f0) := ⟨_, rfl⟩
       replace H : (if (bq14 = true) then (some (-1)) else (some t227)) = some r := by rw [← hbq14] at H; exact H
       have Nbq14 := Aside0.mk hbq14
       clear hbq14
       by_cases c15 : (bq14 = true)
       ·subst c15
        have H1 : (some (-1)) = some r := by rw [if_pos rfl] at H; exact H
        clear H
        have H := H1
        clear H1
        obtain rfl := Option.some.inj H
        go_enter Tryd.func25, Tryd.ntmps25
        go_wp2_with (first | ((with_reducible refine gate_dst (N := 2) rfl ?_); refine box_event ?hg (N := 2) ?hd (cs := #[.int .i64 a0_0, .int .i64 a0_1, .slice A0_2 l0_2.length c0_2, .int .i64 a0_3, .bool a0_4, .bool a0_5]) (t := 24) ?hr ?_; (case hd => rfl); (case hg => rfl); (case hr => first | (go_simp; done) | (go_simp; rfl)); intro gb226 hg w16 hbox hb; have n0_ := Aside0.mk (below_step bl_ hb); have n1_ := Aside0.mk (hbox); have n2_ := Aside0.mk ((le_new hg (below_size bl_) : w.heap.size ≤ gb226)); have n3_ := Aside0.mk ((le_new hg (below_size bl_) : w.heap.size ≤ gb226)); clear HB; have HB := n0_; have BK226 := n1_; have GW226 := n2_; have GE226 := n3_; clear n0_ n1_ n2_ n3_; clear hb hbox hg; obtain ⟨hcz17_0, hcz17_1, hcz17_2, hcz17_3, hcz17_4, hcz17_5, hfz17_0, hfz17_1, hfz17_2, hfz17_3, hfz17_4, hfz17_5⟩ := cells6 (show w16.heap[gb226]? = some (.cells #[.int .i64 a0_0, .int .i64 a0_1, .slice A0_2 l0_2.length c0_2, .int .i64 a0_3, .bool a0_4, .bool a0_5] _ (0, 0)) from BK226.out)) | ((with_reducible refine gate_callee (f := 26) rfl ?_); refine goesL_ (some 11) rfl rfl Tryd.func26 (by kernel_rfl) rfl #[.int .i64 (wrap64 (a1 + 1)), .int .i64 (l0_2.length : Int)] rfl ag_ ?_; (with_reducible refine (shutterref11_mod.calls k (wrap64 (a1 + 1)) (l0_2.length : Int) t227 _ A3.out).mono ?_); rintro e w' ⟨rfl, ⟨nd, rfl⟩⟩; refine ⟨_, rfl, ?_⟩; have p228 : 0 ≤ (a1 : Int) := of_decide_eq_true (by first | (with_reducible assumption) | assumption); have q228 : a1 < (l0_2.length : Int) := of_decide_eq_true (by first | (with_reducible assumption) | assumption); obtain ⟨ad228, e228, hx228_0, hx228_1, hx228_2, hx228_3, hx228_4, hx228_5⟩ := at_T44 HR0_2.out a1 p228 q228; (try rw [← Nbq6.out] at hx228_0); (try rw [← Nbq8.out] at hx228_0); (try rw [← Nbq14.out] at hx228_0); (try rw [← Nbq6.out] at hx228_1); (try rw [← Nbq8.out] at hx228_1); (try rw [← Nbq14.out] at hx228_1); (try rw [← Nbq6.out] at hx228_2); (try rw [← Nbq8.out] at hx228_2); (try rw [← Nbq14.out] at hx228_2); (try rw [← Nbq6.out] at hx228_4); (try rw [← Nbq8.out] at hx228_4); (try rw [← Nbq14.out] at hx228_4); cases e228; replace hx228_0 := (HB.out.cell (World.block_lt_of_cell? w _ hx228_0)).trans hx228_0; replace hx228_1 := (HB.out.cell (World.block_lt_of_cell? w _ hx228_1)).trans hx228_1; replace hx228_2 := (HB.out.cell (World.block_lt_of_cell? w _ hx228_2)).trans hx228_2; replace hx228_3 := (HB.out.cell (World.block_lt_of_cell? w _ hx228_3)).trans hx228_3; replace hx228_4 := (HB.out.cell (World.block_lt_of_cell? w _ hx228_4)).trans hx228_4; replace hx228_5 := (HB.out.cell (World.block_lt_of_cell? w _ hx228_5)).trans hx228_5; replace p228 := eq_true p228; replace q228 := eq_true q228; have p229 : 0 ≤ (a1 : Int) := of_decide_eq_true (by first | (with_reducible assumption) | assumption); have q229 : a1 < (l0_2.length : Int) := of_decide_eq_true (by first | (with_reducible assumption) | assumption); obtain ⟨ad229, e229, hx229_0, hx229_1, hx229_2, hx229_3, hx229_4, hx229_5⟩ := at_T44 HR0_2.out a1 p229 q229; (try rw [← Nbq6.out] at hx229_0); (try rw [← Nbq8.out] at hx229_0); (try rw [← Nbq14.out] at hx229_0); (try rw [← Nbq6.out] at hx229_1); (try rw [← Nbq8.out] at hx229_1); (try rw [← Nbq14.out] at hx229_1); (try rw [← Nbq6.out] at hx229_2); (try rw [← Nbq8.out] at hx229_2); (try rw [← Nbq14.out] at hx229_2); (try rw [← Nbq6.out] at hx229_4); (try rw [← Nbq8.out] at hx229_4); (try rw [← Nbq14.out] at hx229_4); obtain rfl : ad228 = ad229 := (by injection e229); replace hx229_0 := (HB.out.cell (World.block_lt_of_cell? w _ hx229_0)).trans hx229_0; replace hx229_1 := (HB.out.cell (World.block_lt_of_cell? w _ hx229_1)).trans hx229_1; replace hx229_2 := (HB.out.cell (World.block_lt_of_cell? w _ hx229_2)).trans hx229_2; replace hx229_3 := (HB.out.cell (World.block_lt_of_cell? w _ hx229_3)).trans hx229_3; replace hx229_4 := (HB.out.cell (World.block_lt_of_cell? w _ hx229_4)).trans hx229_4; replace hx229_5 := (HB.out.cell (World.block_lt_of_cell? w _ hx229_5)).trans hx229_5; replace p229 := eq_true p229; replace q229 := eq_true q229; have p230 : 0 ≤ (t227 : Int) := of_decide_eq_true (by first | (with_reducible assumption) | assumption); have q230 : t227 < (l0_2.length : Int) := of_decide_eq_true (by first | (with_reducible assumption) | assumption); obtain ⟨ad230, e230, hx230_0, hx230_1, hx230_2, hx230_3, hx230_4, hx230_5⟩ := at_T44 HR0_2.out t227 p230 q230; (try rw [← Nbq6.out] at hx230_0); (try rw [← Nbq8.out] at hx230_0); (try rw [← Nbq14.out] at hx230_0); (try rw [← Nbq6.out] at hx230_1); (try rw [← Nbq8.out] at hx230_1); (try rw [← Nbq14.out] at hx230_1); (try rw [← Nbq6.out] at hx230_2); (try rw [← Nbq8.out] at hx230_2); (try rw [← Nbq14.out] at hx230_2); (try rw [← Nbq6.out] at hx230_4); (try rw [← Nbq8.out] at hx230_4); (try rw [← Nbq14.out] at hx230_4); obtain rfl : ad228 = ad230 := (by injection e230); replace hx230_0 := (HB.out.cell (World.block_lt_of_cell? w _ hx230_0)).trans hx230_0; replace hx230_1 := (HB.out.cell (World.block_lt_of_cell? w _ hx230_1)).trans hx230_1; replace hx230_2 := (HB.out.cell (World.block_lt_of_cell? w _ hx230_2)).trans hx230_2; replace hx230_3 := (HB.out.cell (World.block_lt_of_cell? w _ hx230_3)).trans hx230_3; replace hx230_4 := (HB.out.cell (World.block_lt_of_cell? w _ hx230_4)).trans hx230_4; replace hx230_5 := (HB.out.cell (World.block_lt_of_cell? w _ hx230_5)).trans hx230_5; replace p230 := eq_true p230; replace q230 := eq_true q230))
        go_ret
        exact ⟨by first | rfl | (simp [errW_none, errW_some] <;> rfl) | (simp [*, errW_none, errW_some] <;> rfl), bl_⟩
       ·replace c15 := Bool.eq_false_iff.mpr c15
        subst c15
        have H1 : (some t227) = some r := by rw [if_neg (show ¬ (false = true) by decide)] at H; exact H
        clear H
        have H := H1
        clear H1
        obtain rfl := Option.some.inj H
        go_enter Tryd.func25, Tryd.ntmps25
        go_wp2_with (first | ((with_reducible refine gate_dst (N := 2) rfl ?_); refine box_event ?hg (N := 2) ?hd (cs := #[.int .i64 a0_0, .int .i64 a0_1, .slice A0_2 l0_2.length c0_2, .int .i64 a0_3, .bool a0_4, .bool a0_5]) (t := 24) ?hr ?_; (case hd => rfl); (case hg => rfl); (case hr => first | (go_simp; done) | (go_simp; rfl)); intro gb226 hg w18 hbox hb; have n0_ := Aside0.mk (below_step bl_ hb); have n1_ := Aside0.mk (hbox); have n2_ := Aside0.mk ((le_new hg (below_size bl_) : w.heap.size ≤ gb226)); have n3_ := Aside0.mk ((le_new hg (below_size bl_) : w.heap.size ≤ gb226)); clear HB; have HB := n0_; have BK226 := n1_; have GW226 := n2_; have GE226 := n3_; clear n0_ n1_ n2_ n3_; clear hb hbox hg; obtain ⟨hcz19_0, hcz19_1, hcz19_2, hcz19_3, hcz19_4, hcz19_5, hfz19_0, hfz19_1, hfz19_2, hfz19_3, hfz19_4, hfz19_5⟩ := cells6 (show w18.heap[gb226]? = some (.cells #[.int .i64 a0_0, .int .i64 a0_1, .slice A0_2 l0_2.length c0_2, .int .i64 a0_3, .bool a0_4, .bool a0_5] _ (0, 0)) from BK226.out)) | ((with_reducible refine gate_callee (f := 26) rfl ?_); refine goesL_ (some 11) rfl rfl Tryd.func26 (by kernel_rfl) rfl #[.int .i64 (wrap64 (a1 + 1)), .int .i64 (l0_2.length : Int)] rfl ag_ ?_; (with_reducible refine (shutterref11_mod.calls k (wrap64 (a1 + 1)) (l0_2.length : Int) t227 _ A3.out).mono ?_); rintro e w' ⟨rfl, ⟨nd, rfl⟩⟩; refine ⟨_, rfl, ?_⟩; have p228 : 0 ≤ (a1 : Int) := of_decide_eq_true (by first | (with_reducible assumption) | assumption); have q228 : a1 < (l0_2.length : Int) := of_decide_eq_true (by first | (with_reducible assumption) | assumption); obtain ⟨ad228, e228, hx228_0, hx228_1, hx228_2, hx228_3, hx228_4, hx228_5⟩ := at_T44 HR0_2.out a1 p228 q228; (try rw [← Nbq6.out] at hx228_0); (try rw [← Nbq8.out] at hx228_0); (try rw [← Nbq14.out] at hx228_0); (try rw [← Nbq6.out] at hx228_1); (try rw [← Nbq8.out] at hx228_1); (try rw [← Nbq14.out] at hx228_1); (try rw [← Nbq6.out] at hx228_2); (try rw [← Nbq8.out] at hx228_2); (try rw [← Nbq14.out] at hx228_2); (try rw [← Nbq6.out] at hx228_4); (try rw [← Nbq8.out] at hx228_4); (try rw [← Nbq14.out] at hx228_4); cases e228; replace hx228_0 := (HB.out.cell (World.block_lt_of_cell? w _ hx228_0)).trans hx228_0; replace hx228_1 := (HB.out.cell (World.block_lt_of_cell? w _ hx228_1)).trans hx228_1; replace hx228_2 := (HB.out.cell (World.block_lt_of_cell? w _ hx228_2)).trans hx228_2; replace hx228_3 := (HB.out.cell (World.block_lt_of_cell? w _ hx228_3)).trans hx228_3; replace hx228_4 := (HB.out.cell (World.block_lt_of_cell? w _ hx228_4)).trans hx228_4; replace hx228_5 := (HB.out.cell (World.block_lt_of_cell? w _ hx228_5)).trans hx228_5; replace p228 := eq_true p228; replace q228 := eq_true q228; have p229 : 0 ≤ (a1 : Int) := of_decide_eq_true (by first | (with_reducible assumption) | assumption); have q229 : a1 < (l0_2.length : Int) := of_decide_eq_true (by first | (with_reducible assumption) | assumption); obtain ⟨ad229, e229, hx229_0, hx229_1, hx229_2, hx229_3, hx229_4, hx229_5⟩ := at_T44 HR0_2.out a1 p229 q229; (try rw [← Nbq6.out] at hx229_0); (try rw [← Nbq8.out] at hx229_0); (try rw [← Nbq14.out] at hx229_0); (try rw [← Nbq6.out] at hx229_1); (try rw [← Nbq8.out] at hx229_1); (try rw [← Nbq14.out] at hx229_1); (try rw [← Nbq6.out] at hx229_2); (try rw [← Nbq8.out] at hx229_2); (try rw [← Nbq14.out] at hx229_2); (try rw [← Nbq6.out] at hx229_4); (try rw [← Nbq8.out] at hx229_4); (try rw [← Nbq14.out] at hx229_4); obtain rfl : ad228 = ad229 := (by injection e229); replace hx229_0 := (HB.out.cell (World.block_lt_of_cell? w _ hx229_0)).trans hx229_0; replace hx229_1 := (HB.out.cell (World.block_lt_of_cell? w _ hx229_1)).trans hx229_1; replace hx229_2 := (HB.out.cell (World.block_lt_of_cell? w _ hx229_2)).trans hx229_2; replace hx229_3 := (HB.out.cell (World.block_lt_of_cell? w _ hx229_3)).trans hx229_3; replace hx229_4 := (HB.out.cell (World.block_lt_of_cell? w _ hx229_4)).trans hx229_4; replace hx229_5 := (HB.out.cell (World.block_lt_of_cell? w _ hx229_5)).trans hx229_5; replace p229 := eq_true p229; replace q229 := eq_true q229; have p230 : 0 ≤ (t227 : Int) := of_decide_eq_true (by first | (with_reducible assumption) | assumption); have q230 : t227 < (l0_2.length : Int) := of_decide_eq_true (by first | (with_reducible assumption) | assumption); obtain ⟨ad230, e230, hx230_0, hx230_1, hx230_2, hx230_3, hx230_4, hx230_5⟩ := at_T44 HR0_2.out t227 p230 q230; (try rw [← Nbq6.out] at hx230_0); (try rw [← Nbq8.out] at hx230_0); (try rw [← Nbq14.out] at hx230_0); (try rw [← Nbq6.out] at hx230_1); (try rw [← Nbq8.out] at hx230_1); (try rw [← Nbq14.out] at hx230_1); (try rw [← Nbq6.out] at hx230_2); (try rw [← Nbq8.out] at hx230_2); (try rw [← Nbq14.out] at hx230_2); (try rw [← Nbq6.out] at hx230_4); (try rw [← Nbq8.out] at hx230_4); (try rw [← Nbq14.out] at hx230_4); obtain rfl : ad228 = ad230 := (by injection e230); replace hx230_0 := (HB.out.cell (World.block_lt_of_cell? w _ hx230_0)).trans hx230_0; replace hx230_1 := (HB.out.cell (World.block_lt_of_cell? w _ hx230_1)).trans hx230_1; replace hx230_2 := (HB.out.cell (World.block_lt_of_cell? w _ hx230_2)).trans hx230_2; replace hx230_3 := (HB.out.cell (World.block_lt_of_cell? w _ hx230_3)).trans hx230_3; replace hx230_4 := (HB.out.cell (World.block_lt_of_cell? w _ hx230_4)).trans hx230_4; replace hx230_5 := (HB.out.cell (World.block_lt_of_cell? w _ hx230_5)).trans hx230_5; replace p230 := eq_true p230; replace q230 := eq_true q230))
        go_ret
        exact ⟨by first | rfl | (simp [errW_none, errW_some] <;> rfl) | (simp [*, errW_none, errW_some] <;> rfl), bl_⟩
      ·rw [if_neg c13] at H
       exact absurd H (by simp)
     ·rw [if_neg c12] at H
      exact absurd H (by simp)
   ·replace c7 := Bool.eq_false_iff.mpr c7
    subst c7
    have H1 : (some (-1)) = some r := by rw [if_neg (show ¬ (false = true) by decide)] at H; exact H
    clear H
    have H := H1
    clear H1
    obtain rfl := Option.some.inj H
    go_enter Tryd.func25, Tryd.ntmps25
    go_wp2_with (first | ((with_reducible refine gate_dst (N := 2) rfl ?_); refine box_event ?hg (N := 2) ?hd (cs := #[.int .i64 a0_0, .int .i64 a0_1, .slice A0_2 l0_2.length c0_2, .int .i64 a0_3, .bool a0_4, .bool a0_5]) (t := 24) ?hr ?_; (case hd => rfl); (case hg => rfl); (case hr => first | (go_simp; done) | (go_simp; rfl)); intro gb226 hg w20 hbox hb; have n0_ := Aside0.mk (below_step bl_ hb); have n1_ := Aside0.mk (hbox); have n2_ := Aside0.mk ((le_new hg (below_size bl_) : w.heap.size ≤ gb226)); have n3_ := Aside0.mk ((le_new hg (below_size bl_) : w.heap.size ≤ gb226)); clear HB; have HB := n0_; have BK226 := n1_; have GW226 := n2_; have GE226 := n3_; clear n0_ n1_ n2_ n3_; clear hb hbox hg; obtain ⟨hcz21_0, hcz21_1, hcz21_2, hcz21_3, hcz21_4, hcz21_5, hfz21_0, hfz21_1, hfz21_2, hfz21_3, hfz21_4, hfz21_5⟩ := cells6 (show w20.heap[gb226]? = some (.cells #[.int .i64 a0_0, .int .i64 a0_1, .slice A0_2 l0_2.length c0_2, .int .i64 a0_3, .bool a0_4, .bool a0_5] _ (0, 0)) from BK226.out)) | ((with_reducible refine gate_callee (f := 26) rfl ?_); refine goesL_ (some 11) rfl rfl Tryd.func26 (by kernel_rfl) rfl #[.int .i64 (wrap64 (a1 + 1)), .int .i64 (l0_2.length : Int)] rfl ag_ ?_; (with_reducible refine (shutterref11_mod.calls k (wrap64 (a1 + 1)) (l0_2.length : Int) t227 _ A3.out).mono ?_); rintro e w' ⟨rfl, ⟨nd, rfl⟩⟩; refine ⟨_, rfl, ?_⟩; have p228 : 0 ≤ (a1 : Int) := of_decide_eq_true (by first | (with_reducible assumption) | assumption); have q228 : a1 < (l0_2.length : Int) := of_decide_eq_true (by first | (with_reducible assumption) | assumption); obtain ⟨ad228, e228, hx228_0, hx228_1, hx228_2, hx228_3, hx228_4, hx228_5⟩ := at_T44 HR0_2.out a1 p228 q228; (try rw [← Nbq6.out] at hx228_0); (try rw [← Nbq6.out] at hx228_1); (try rw [← Nbq6.out] at hx228_2); (try rw [← Nbq6.out] at hx228_4); cases e228; replace hx228_0 := (HB.out.cell (World.block_lt_of_cell? w _ hx228_0)).trans hx228_0; replace hx228_1 := (HB.out.cell (World.block_lt_of_cell? w _ hx228_1)).trans hx228_1; replace hx228_2 := (HB.out.cell (World.block_lt_of_cell? w _ hx228_2)).trans hx228_2; replace hx228_3 := (HB.out.cell (World.block_lt_of_cell? w _ hx228_3)).trans hx228_3; replace hx228_4 := (HB.out.cell (World.block_lt_of_cell? w _ hx228_4)).trans hx228_4; replace hx228_5 := (HB.out.cell (World.block_lt_of_cell? w _ hx228_5)).trans hx228_5; replace p228 := eq_true p228; replace q228 := eq_true q228))
    go_ret
    exact ⟨by first | rfl | (simp [errW_none, errW_some] <;> rfl) | (simp [*, errW_none, errW_some] <;> rfl), bl_⟩
  ·rw [if_neg c5] at H
   exact absurd H (by simp)
 ·rw [if_neg c4] at H
  exact absurd H (by simp)

end Go.Proofs.YtapcfcagjlmgjaaDoor.P
