/- The functions of the seat's laws as plain Lean functions, and that Go's code comes to just their answers. Written by pp.py (wip/tools), a program of this session, on the kit's print. -/
import Derived.Test.YtggecanpjkpkiaaDoorPx0
import Derived.Test.YtggecanpjkpkiaaDoorPx3
namespace Go.Proofs.YtggecanpjkpkiaaDoor.P
open Go.RowKit Go.Proofs.YtggecanpjkpkiaaDoorW.PrintWords Go.Proofs.YtggecanpjkpkiaaDoorW.PrintLast Go.Proofs.YtggecanpjkpkiaaDoorW.PrintMore
attribute [local go_sem] max2_int min2_int max_two min_two max_three min_three max_four min_four   -- for this text's walks alone
attribute [local go_sem] Instr.field asAgg
set_option linter.unusedVariables false
set_option linter.unusedSimpArgs false

/-! ### shutterref10_Right: function 20 -/
mutual
def shutterref10_Right.j0 : Nat → Bool → Int → Int → List (S35) → Int → Bool → Bool → Option (Bool)
 | 0, _, _, _, _, _, _, _ => none
 | k + 1, x33, x104000, x104001, x104002, x104003, x104004, x104005 => if x33 = true then (some false) else (shutterref10_Right.l0 k 0 x104000 x104001 x104002 x104003 x104004 x104005)
def shutterref10_Right.l0 : Nat → Int → Int → Int → List (S35) → Int → Bool → Bool → Option (Bool)
 | 0, _, _, _, _, _, _, _ => none
 | k + 1, x3, x104000, x104001, x104002, x104003, x104004, x104005 => if x3 < (x104002.length : Int) then (if 0 ≤ x3 then ((shutterref10_Cell.f ((rd_T35 x104002 x3).f0) ((rd_T35 x104002 x3).f1.f0) ((rd_T35 x104002 x3).f1.f1) ((rd_T35 x104002 x3).f1.f2) ((rd_T35 x104002 x3).f1.f3) ((rd_T35 x104002 x3).f2)).bind fun t106 => (if t106 = true then (shutterref10_Right.l0 k (wrap64 (x3 + 1)) x104000 x104001 x104002 x104003 x104004 x104005) else (some false))) else (none)) else (some true)
end
def shutterref10_Right.f (k : Nat) (a0_0 : Int) (a0_1 : Int) (l0_2 : List (S35)) (a0_3 : Int) (a0_4 : Bool) (a0_5 : Bool) : Option (Bool) := (shutterref10_Sized.f a0_0 a0_1).bind fun t104 => (if t104 = true then (if (l0_2.length : Int) = (wrap64 (a0_0 * a0_1)) then (if a0_3 < 0 then (shutterref10_Right.j0 k true a0_0 a0_1 l0_2 a0_3 a0_4 a0_5) else (shutterref10_Right.j0 k (decide (a0_3 ≥ (l0_2.length : Int))) a0_0 a0_1 l0_2 a0_3 a0_4 a0_5)) else (shutterref10_Right.j0 k true a0_0 a0_1 l0_2 a0_3 a0_4 a0_5)) else (shutterref10_Right.j0 k true a0_0 a0_1 l0_2 a0_3 a0_4 a0_5))
theorem shutterref10_Right.mono_l : ∀ k, (∀ y0 y1 y2 y3 y4 y5 y6, LeO (shutterref10_Right.j0 k y0 y1 y2 y3 y4 y5 y6) (shutterref10_Right.j0 (k + 1) y0 y1 y2 y3 y4 y5 y6)) ∧ (∀ y0 y1 y2 y3 y4 y5 y6, LeO (shutterref10_Right.l0 k y0 y1 y2 y3 y4 y5 y6) (shutterref10_Right.l0 (k + 1) y0 y1 y2 y3 y4 y5 y6))
 | 0 => ⟨fun _ _ _ _ _ _ _ r h => by simp [shutterref10_Right.j0] at h, fun _ _ _ _ _ _ _ r h => by simp [shutterref10_Right.l0] at h⟩
 | k + 1 => by
  obtain ⟨ih0, ih1⟩ := shutterref10_Right.mono_l k
  refine ⟨?_, ?_⟩
  ·intro y0 y1 y2 y3 y4 y5 y6
   unfold shutterref10_Right.j0
   repeat' first
   | (with_reducible exact ih0 _ _ _ _ _ _ _)
   | (with_reducible exact ih1 _ _ _ _ _ _ _)
   | (with_reducible exact LeO.refl _)
   | (with_reducible exact LeO.none _)
   | (with_reducible refine LeO.ite ?_ ?_)
   | (with_reducible refine LeO.bind ?_ (fun _ => ?_))
   | exact ih0 _ _ _ _ _ _ _
   | exact ih1 _ _ _ _ _ _ _
   | exact LeO.none _
   | refine LeO.ite ?_ ?_
   | refine LeO.bind ?_ (fun _ => ?_)
  ·intro y0 y1 y2 y3 y4 y5 y6
   unfold shutterref10_Right.l0
   repeat' first
   | (with_reducible exact ih0 _ _ _ _ _ _ _)
   | (with_reducible exact ih1 _ _ _ _ _ _ _)
   | (with_reducible exact LeO.refl _)
   | (with_reducible exact LeO.none _)
   | (with_reducible refine LeO.ite ?_ ?_)
   | (with_reducible refine LeO.bind ?_ (fun _ => ?_))
   | exact ih0 _ _ _ _ _ _ _
   | exact ih1 _ _ _ _ _ _ _
   | exact LeO.none _
   | refine LeO.ite ?_ ?_
   | refine LeO.bind ?_ (fun _ => ?_)
theorem shutterref10_Right.mono : ∀ a0 a1 a2 a3 a4 a5 k, LeO (shutterref10_Right.f k a0 a1 a2 a3 a4 a5) (shutterref10_Right.f (k + 1) a0 a1 a2 a3 a4 a5) := by
 intro a0 a1 a2 a3 a4 a5 k
 obtain ⟨ih0, ih1⟩ := shutterref10_Right.mono_l k
 unfold shutterref10_Right.f
 repeat' first
   | (with_reducible exact ih0 _ _ _ _ _ _ _)
   | (with_reducible exact ih1 _ _ _ _ _ _ _)
   | (with_reducible exact LeO.refl _)
   | (with_reducible exact LeO.none _)
   | (with_reducible refine LeO.ite ?_ ?_)
   | (with_reducible refine LeO.bind ?_ (fun _ => ?_))
   | exact ih0 _ _ _ _ _ _ _
   | exact ih1 _ _ _ _ _ _ _
   | exact LeO.none _
   | refine LeO.ite ?_ ?_
   | refine LeO.bind ?_ (fun _ => ?_)
set_option maxHeartbeats 8000000 in
set_option maxRecDepth 100000 in
theorem shutterref10_Right.calls (k : Nat) (a0_0 : Int) (a0_1 : Int) (A0_2 : Option Addr) (c0_2 : Nat) (l0_2 : List (S35)) (a0_3 : Int) (a0_4 : Bool) (a0_5 : Bool) (r : Bool) (w : World) (hr0_2 : Kd.C k35 w A0_2 l0_2.length l0_2) (hc0_2 : l0_2.length ≤ c0_2) (h : shutterref10_Right.f k a0_0 a0_1 l0_2 a0_3 a0_4 a0_5 = some r) :
  Calls Tryd.prog 20 #[.agg #[.int .i64 a0_0, .int .i64 a0_1, .slice A0_2 l0_2.length c0_2, .int .i64 a0_3, .bool a0_4, .bool a0_5]] w fun e w' => e = .returned (.bool r) ∧ Below w.heap.size w w' := by
 have hu24 := Tryd.underlying24
 have hu35 := Tryd.underlying35
 have HR0_2 := Aside0.mk hr0_2
 have HC0_2 := Aside0.mk hc0_2
 clear hr0_2 hc0_2
 have HB := Aside0.mk (Below.refl w.heap.size w)
 have H : ((shutterref10_Sized.f a0_0 a0_1).bind fun t104 => (if t104 = true then (if (l0_2.length : Int) = (wrap64 (a0_0 * a0_1)) then (if a0_3 < 0 then (shutterref10_Right.j0 k true a0_0 a0_1 l0_2 a0_3 a0_4 a0_5) else (shutterref10_Right.j0 k (decide (a0_3 ≥ (l0_2.length : Int))) a0_0 a0_1 l0_2 a0_3 a0_4 a0_5)) else (shutterref10_Right.j0 k true a0_0 a0_1 l0_2 a0_3 a0_4 a0_5)) else (shutterref10_Right.j0 k true a0_0 a0_1 l0_2 a0_3 a0_4 a0_5))) = some r := h
 clear h
 have HC2 := Aside0.mk H
 clear H
 go_enter Tryd.func20, Tryd.ntmps20
 go_upto_region 1 with (first | ((with_reducible refine gate_dst (N := 1) rfl ?_); (try (refine gate_guard (by rfl) ?_; dsimp only)); refine box_event ?hg (N := 1) ?hd (cs := #[.int .i64 a0_0, .int .i64 a0_1, .slice A0_2 l0_2.length c0_2, .int .i64 a0_3, .bool a0_4, .bool a0_5]) (t := 24) ?hr ?_; (case hd => rfl); (case hg => rfl); (case hr => first | (go_simp; done) | (go_simp; rfl)); intro gb103 hg w3 hbox hb; have n0_ := Aside0.mk (below_step bl_ hb); have n1_ := Aside0.mk (hbox); have n2_ := Aside0.mk ((le_new hg (below_size bl_) : w.heap.size ≤ gb103)); have n3_ := Aside0.mk ((le_new hg (below_size bl_) : w.heap.size ≤ gb103)); clear HB; have HB := n0_; have BK103 := n1_; have GW103 := n2_; have GE103 := n3_; clear n0_ n1_ n2_ n3_; clear hb hbox hg))
 (try simp only [Act.put, List.setIfInBounds_toArray, List.set_cons_zero, List.set_cons_succ])
 go_cut [33] (fun v33 wc => ∃ (kq : Nat) (x33_1 : Bool), v33 = .bool x33_1 ∧ Aside0 (shutterref10_Right.j0 kq x33_1 a0_0 a0_1 l0_2 a0_3 a0_4 a0_5 = some r) ∧ Aside0 (kq ≤ k) ∧ Aside0 (wc.heap[gb103]? = some (.cells #[.int .i64 a0_0, .int .i64 a0_1, (.slice A0_2 l0_2.length c0_2), .int .i64 a0_3, .bool a0_4, .bool a0_5] 24 (0, 0))) ∧ Aside0 (Below w.heap.size w wc))
 case first =>
  have H := HC2.out
  clear HC2
  replace H := Option.bind_eq_some_iff.mp H
  obtain ⟨t104, A40, H⟩ := H
  replace H : (if t104 = true then (if (l0_2.length : Int) = (wrap64 (a0_0 * a0_1)) then (if a0_3 < 0 then (shutterref10_Right.j0 k true a0_0 a0_1 l0_2 a0_3 a0_4 a0_5) else (shutterref10_Right.j0 k (decide (a0_3 ≥ (l0_2.length : Int))) a0_0 a0_1 l0_2 a0_3 a0_4 a0_5)) else (shutterref10_Right.j0 k true a0_0 a0_1 l0_2 a0_3 a0_4 a0_5)) else (shutterref10_Right.j0 k true a0_0 a0_1 l0_2 a0_3 a0_4 a0_5)) = some r := H
  have A4 := Aside0.mk A40
  clear A40
  by_cases c5 : t104 = true
  ·subst c5
   have H1 : (if (l0_2.length : Int) = (wrap64 (a0_0 * a0_1)) then (if a0_3 < 0 then (shutterref10_Right.j0 k true a0_0 a0_1 l0_2 a0_3 a0_4 a0_5) else (shutterref10_Right.j0 k (decide (a0_3 ≥ (l0_2.length : Int))) a0_0 a0_1 l0_2 a0_3 a0_4 a0_5)) else (shutterref10_Right.j0 k true a0_0 a0_1 l0_2 a0_3 a0_4 a0_5)) = some r := by rw [if_pos rfl] at H; exact H
   clear H
   have H := H1
   clear H1
   by_cases c6 : (l0_2.length : Int) = (wrap64 (a0_0 * a0_1))
   ·rw [if_pos c6] at H
    have c6b0 : ((l0_2.length : Int) == (wrap64 (a0_0 * a0_1))) = true := beq_iff_eq.mpr c6
    have c6b1 : ((l0_2.length : Int) != (wrap64 (a0_0 * a0_1))) = false := bne_eq_false_iff_eq.mpr c6
    clear c6
    (first | rw [c6b0] | (simp only [i64_w, i32_w]; rw [c6b0]) | skip)
    by_cases c7 : a0_3 < 0
    ·rw [if_pos c7] at H
     have c7b0 : decide (a0_3 < 0) = true := decide_eq_true c7
     clear c7
     have H' := Aside0.mk H
     clear H
     obtain ⟨hcz8_0, hcz8_1, hcz8_2, hcz8_3, hcz8_4, hcz8_5, hfz8_0, hfz8_1, hfz8_2, hfz8_3, hfz8_4, hfz8_5⟩ := cells6 (show w3.heap[gb103]? = some (.cells #[.int .i64 a0_0, .int .i64 a0_1, .slice A0_2 l0_2.length c0_2, .int .i64 a0_3, .bool a0_4, .bool a0_5] _ (0, 0)) from BK103.out)
     go_wp2_with (first | ((with_reducible refine gate_callee (f := 45) rfl ?_); refine goesL_ (some 8) rfl rfl Tryd.func45 (by kernel_rfl) rfl #[.int .i64 a0_0, .int .i64 a0_1] rfl ag_ ?_; (with_reducible refine (shutterref10_Sized.calls a0_0 a0_1 true _ A4.out).mono ?_); rintro e w' ⟨rfl, ⟨nd, rfl⟩⟩; refine ⟨_, rfl, ?_⟩))
     go_meet
     case rel => exact ⟨_, (true), (by first | rfl | (simp; done) | (simp [*]; done)), H', ⟨by first | omega | exact Nat.le_refl _⟩, ⟨by (with_reducible repeat apply pK); exact BK103.out⟩, ⟨bl_⟩⟩
    ·rw [if_neg c7] at H
     have c7b0 : decide (a0_3 < 0) = false := decide_eq_false c7
     clear c7
     have H' := Aside0.mk H
     clear H
     obtain ⟨hcz9_0, hcz9_1, hcz9_2, hcz9_3, hcz9_4, hcz9_5, hfz9_0, hfz9_1, hfz9_2, hfz9_3, hfz9_4, hfz9_5⟩ := cells6 (show w3.heap[gb103]? = some (.cells #[.int .i64 a0_0, .int .i64 a0_1, .slice A0_2 l0_2.length c0_2, .int .i64 a0_3, .bool a0_4, .bool a0_5] _ (0, 0)) from BK103.out)
     go_wp2_with (first | ((with_reducible refine gate_callee (f := 45) rfl ?_); refine goesL_ (some 8) rfl rfl Tryd.func45 (by kernel_rfl) rfl #[.int .i64 a0_0, .int .i64 a0_1] rfl ag_ ?_; (with_reducible refine (shutterref10_Sized.calls a0_0 a0_1 true _ A4.out).mono ?_); rintro e w' ⟨rfl, ⟨nd, rfl⟩⟩; refine ⟨_, rfl, ?_⟩))
     go_meet
     case rel => exact ⟨_, (decide (a0_3 ≥ (l0_2.length : Int))), (by first | rfl | (simp; done) | (simp [*]; done)), H', ⟨by first | omega | exact Nat.le_refl _⟩, ⟨by (with_reducible repeat apply pK); exact BK103.out⟩, ⟨bl_⟩⟩
   ·rw [if_neg c6] at H
    have c6b0 : ((l0_2.length : Int) == (wrap64 (a0_0 * a0_1))) = false := beq_eq_false_iff_ne.mpr c6
    have c6b1 : ((l0_2.length : Int) != (wrap64 (a0_0 * a0_1))) = true := bne_iff_ne.mpr c6
    (first | rw [c6b0] | (simp only [i64_w, i32_w]; rw [c6b0]) | skip)
    have H' := Aside0.mk H
    clear H
    obtain ⟨hcz10_0, hcz10_1, hcz10_2, hcz10_3, hcz10_4, hcz10_5, hfz10_0, hfz10_1, hfz10_2, hfz10_3, hfz10_4, hfz10_5⟩ := cells6 (show w3.heap[gb103]? = some (.cells #[.int .i64 a0_0, .int .i64 a0_1, .slice A0_2 l0_2.length c0_2, .int .i64 a0_3, .bool a0_4, .bool a0_5] _ (0, 0)) from BK103.out)
    go_wp2_with (first | ((with_reducible refine gate_callee (f := 45) rfl ?_); refine goesL_ (some 8) rfl rfl Tryd.func45 (by kernel_rfl) rfl #[.int .i64 a0_0, .int .i64 a0_1] rfl ag_ ?_; (with_reducible refine (shutterref10_Sized.calls a0_0 a0_1 true _ A4.out).mono ?_); rintro e w' ⟨rfl, ⟨nd, rfl⟩⟩; refine ⟨_, rfl, ?_⟩))
    go_meet
    case rel => exact ⟨_, (true), (by first | rfl | (simp; done) | (simp [*]; done)), H', ⟨by first | omega | exact Nat.le_refl _⟩, ⟨by (with_reducible repeat apply pK); exact BK103.out⟩, ⟨bl_⟩⟩
  ·replace c5 := Bool.eq_false_iff.mpr c5
   subst c5
   have H1 : (shutterref10_Right.j0 k true a0_0 a0_1 l0_2 a0_3 a0_4 a0_5) = some r := by rw [if_neg (show ¬ (false = true) by decide)] at H; exact H
   clear H
   have H := H1
   clear H1
   have H' := Aside0.mk H
   clear H
   obtain ⟨hcz11_0, hcz11_1, hcz11_2, hcz11_3, hcz11_4, hcz11_5, hfz11_0, hfz11_1, hfz11_2, hfz11_3, hfz11_4, hfz11_5⟩ := cells6 (show w3.heap[gb103]? = some (.cells #[.int .i64 a0_0, .int .i64 a0_1, .slice A0_2 l0_2.length c0_2, .int .i64 a0_3, .bool a0_4, .bool a0_5] _ (0, 0)) from BK103.out)
   go_wp2_with (first | ((with_reducible refine gate_callee (f := 45) rfl ?_); refine goesL_ (some 8) rfl rfl Tryd.func45 (by kernel_rfl) rfl #[.int .i64 a0_0, .int .i64 a0_1] rfl ag_ ?_; (with_reducible refine (shutterref10_Sized.calls a0_0 a0_1 false _ A4.out).mono ?_); rintro e w' ⟨rfl, ⟨nd, rfl⟩⟩; refine ⟨_, rfl, ?_⟩))
   go_meet
   case rel => exact ⟨_, (true), (by first | rfl | (simp; done) | (simp [*]; done)), H', ⟨by first | omega | exact Nat.le_refl _⟩, ⟨by (with_reducible repeat apply pK); exact BK103.out⟩, ⟨bl_⟩⟩
 case rest =>
  clear HC2
  try clear c2
  try clear p2
  try clear c4
  try clear c5
  try clear c6
  try clear c6b0
  try clear c6b1
  try clear p6
  try clear c7
  try clear c7b0
  try clear hcz10_0
  try clear hcz10_1
  try clear hcz10_2
  try clear hcz10_3
  try clear hcz10_4
  try clear hcz10_5
  try clear hcz11_0
  try clear hcz11_1
  try clear hcz11_2
  try clear hcz11_3
  try clear hcz11_4
  try clear hcz11_5
  try clear hcz8_0
  try clear hcz8_1
  try clear hcz8_2
  try clear hcz8_3
  try clear hcz8_4
  try clear hcz8_5
  try clear hcz9_0
  try clear hcz9_1
  try clear hcz9_2
  try clear hcz9_3
  try clear hcz9_4
  try clear hcz9_5
  try clear hfz10_0
  try clear hfz10_1
  try clear hfz10_2
  try clear hfz10_3
  try clear hfz10_4
  try clear hfz10_5
  try clear hfz11_0
  try clear hfz11_1
  try clear hfz11_2
  try clear hfz11_3
  try clear hfz11_4
  try clear hfz11_5
  try clear hfz8_0
  try clear hfz8_1
  try clear hfz8_2
  try clear hfz8_3
  try clear hfz8_4
  try clear hfz8_5
  try clear hfz9_0
  try clear hfz9_1
  try clear hfz9_2
  try clear hfz9_3
  try clear hfz9_4
  try clear hfz9_5
  obtain ⟨kq, x33_1, rfl, HA, HJ1, BK103, HB⟩ := hcut
  cases kq with
  | zero => exact absurd HA.out (by simp [shutterref10_Right.j0])
  | succ kj1 =>
   have H := HA.out
   clear HA
   simp only [shutterref10_Right.j0] at H
   by_cases c12 : x33_1 = true
   ·subst c12
    have H1 : (some false) = some r := by rw [if_pos rfl] at H; exact H
    clear H
    have H := H1
    clear H1
    obtain rfl := Option.some.inj H
    go_wp2
    go_ret
    exact ⟨by first | rfl | (simp [errW_none, errW_some] <;> rfl) | (simp [*, errW_none, errW_some] <;> rfl), bl_⟩
   ·replace c12 := Bool.eq_false_iff.mpr c12
    subst c12
    have H1 : (shutterref10_Right.l0 kj1 0 a0_0 a0_1 l0_2 a0_3 a0_4 a0_5) = some r := by rw [if_neg (show ¬ (false = true) by decide)] at H; exact H
    clear H
    have H := H1
    clear H1
    have H' := Aside0.mk H
    clear H
    go_wp2
    go_loopg [3] kj1 (fun kq v3 w' => ∃ (x3_2 : Int), v3 = .int .i64 x3_2 ∧ Aside0 (shutterref10_Right.l0 kq x3_2 a0_0 a0_1 l0_2 a0_3 a0_4 a0_5 = some r) ∧ Aside0 (kq ≤ kj1) ∧ Aside0 (w'.heap[gb103]? = some (.cells #[.int .i64 a0_0, .int .i64 a0_1, (.slice A0_2 l0_2.length c0_2), .int .i64 a0_3, .bool a0_4, .bool a0_5] 24 (0, 0))) ∧ Aside0 (Below w.heap.size w w'))
    case atStart => exact ⟨(0), (by first | rfl | (simp; done) | (simp [*]; done)), H', ⟨Nat.le_refl _⟩, ⟨by (with_reducible repeat apply pK); exact BK103.out⟩, ⟨bl_⟩⟩
    case round =>
     clear H'
     try clear c1
     try clear c2
     try clear p2
     try clear c4
     try clear c5
     try clear c6
     try clear c6b0
     try clear c6b1
     try clear p6
     try clear c7
     try clear c7b0
     try clear c12
     try clear hcz10_0
     try clear hcz10_1
     try clear hcz10_2
     try clear hcz10_3
     try clear hcz10_4
     try clear hcz10_5
     try clear hcz11_0
     try clear hcz11_1
     try clear hcz11_2
     try clear hcz11_3
     try clear hcz11_4
     try clear hcz11_5
     try clear hcz8_0
     try clear hcz8_1
     try clear hcz8_2
     try clear hcz8_3
     try clear hcz8_4
     try clear hcz8_5
     try clear hcz9_0
     try clear hcz9_1
     try clear hcz9_2
     try clear hcz9_3
     try clear hcz9_4
     try clear hcz9_5
     try clear hfz10_0
     try clear hfz10_1
     try clear hfz10_2
     try clear hfz10_3
     try clear hfz10_4
     try clear hfz10_5
     try clear hfz11_0
     try clear hfz11_1
     try clear hfz11_2
     try clear hfz11_3
     try clear hfz11_4
     try clear hfz11_5
     try clear hfz8_0
     try clear hfz8_1
     try clear hfz8_2
     try clear hfz8_3
     try clear hfz8_4
     try clear hfz8_5
     try clear hfz9_0
     try clear hfz9_1
     try clear hfz9_2
     try clear hfz9_3
     try clear hfz9_4
     try clear hfz9_5
     try clear p2
     try clear p6
     obtain ⟨x3_2, rfl, HA, HK2, BK103, HB⟩ := hrel
     cases gk with
     | zero => exact absurd HA.out (by simp [shutterref10_Right.l0])
     | succ k2 =>
      have H := HA.out
      clear HA
      simp only [shutterref10_Right.l0] at H
      by_cases c13 : x3_2 < (l0_2.length : Int)
      ·rw [if_pos c13] at H
       have c13b0 : decide (x3_2 < (l0_2.length : Int)) = true := decide_eq_true c13
       clear c13
       by_cases c14 : 0 ≤ x3_2
       ·rw [if_pos c14] at H
        have c14b0 : decide (0 ≤ x3_2) = true := decide_eq_true c14
        clear c14
        replace H := Option.bind_eq_some_iff.mp H
        obtain ⟨t106, A150, H⟩ := H
        replace H : (if t106 = true then (shutterref10_Right.l0 k2 (wrap64 (x3_2 + 1)) a0_0 a0_1 l0_2 a0_3 a0_4 a0_5) else (some false)) = some r := H
        have A15 := Aside0.mk A150
        clear A150
        by_cases c16 : t106 = true
        ·subst c16
         have H1 : (shutterref10_Right.l0 k2 (wrap64 (x3_2 + 1)) a0_0 a0_1 l0_2 a0_3 a0_4 a0_5) = some r := by rw [if_pos rfl] at H; exact H
         clear H
         have H := H1
         clear H1
         have H' := Aside0.mk H
         clear H
         obtain ⟨hcz17_0, hcz17_1, hcz17_2, hcz17_3, hcz17_4, hcz17_5, hfz17_0, hfz17_1, hfz17_2, hfz17_3, hfz17_4, hfz17_5⟩ := cells6 (show wr.heap[gb103]? = some (.cells #[.int .i64 a0_0, .int .i64 a0_1, .slice A0_2 l0_2.length c0_2, .int .i64 a0_3, .bool a0_4, .bool a0_5] _ (0, 0)) from BK103.out)
         have p105 : 0 ≤ (x3_2 : Int) := of_decide_eq_true (by first | (with_reducible assumption) | assumption)
         have q105 : x3_2 < (l0_2.length : Int) := of_decide_eq_true (by first | (with_reducible assumption) | assumption)
         obtain ⟨ad105, e105, hx105_0, hx105_1, hx105_2, hx105_3, hx105_4, hx105_5⟩ := at_T35 HR0_2.out x3_2 p105 q105
         cases e105
         replace hx105_0 := (HB.out.cell (World.block_lt_of_cell? w _ hx105_0)).trans hx105_0
         replace hx105_1 := (HB.out.cell (World.block_lt_of_cell? w _ hx105_1)).trans hx105_1
         replace hx105_2 := (HB.out.cell (World.block_lt_of_cell? w _ hx105_2)).trans hx105_2
         replace hx105_3 := (HB.out.cell (World.block_lt_of_cell? w _ hx105_3)).trans hx105_3
         replace hx105_4 := (HB.out.cell (World.block_lt_of_cell? w _ hx105_4)).trans hx105_4
         replace hx105_5 := (HB.out.cell (World.block_lt_of_cell? w _ hx105_5)).trans hx105_5
         replace p105 := eq_true p105
         replace q105 := eq_true q105
         go_wp2_with (first | ((with_reducible refine gate_callee (f := 46) rfl ?_); refine goesL_ (some 46) rfl rfl Tryd.func46 (by kernel_rfl) rfl #[.agg #[.bool ((rd_T35 l0_2 x3_2).f0), .bool ((rd_T35 l0_2 x3_2).f1.f0), .bool ((rd_T35 l0_2 x3_2).f1.f1), .int .i64 ((rd_T35 l0_2 x3_2).f1.f2), .bool ((rd_T35 l0_2 x3_2).f1.f3), .int .u8 ((rd_T35 l0_2 x3_2).f2)]] rfl ag_ ?_; (with_reducible refine (shutterref10_Cell.calls ((rd_T35 l0_2 x3_2).f0) ((rd_T35 l0_2 x3_2).f1.f0) ((rd_T35 l0_2 x3_2).f1.f1) ((rd_T35 l0_2 x3_2).f1.f2) ((rd_T35 l0_2 x3_2).f1.f3) ((rd_T35 l0_2 x3_2).f2) true _ A15.out).mono ?_); rintro e w18 ⟨rfl, hb⟩; refine ⟨_, rfl, ?_⟩; have n0_ := Aside0.mk (blk_below (g := gb103) (o := .cells #[.int .i64 a0_0, .int .i64 a0_1, .slice (some ad105) l0_2.length c0_2, .int .i64 a0_3, .bool a0_4, .bool a0_5] 24 (0, 0)) (by (with_reducible repeat apply pK); exact BK103.out) hb); have n1_ := Aside0.mk (below_step bl_ hb); clear BK103; clear HB; have BK103 := n0_; have HB := n1_; clear n0_ n1_; (try clear hb); (try clear hb2); (try clear hk); (try clear hi)))
         go_roundg k2
         case measure => have := HJ1.out; have := HK2.out; omega
         case rel => exact ⟨(wrap64 (x3_2 + 1)), (by first | rfl | (simp; done) | (simp [*]; done)), H', ⟨by have := HJ1.out; have := HK2.out; omega⟩, ⟨by (with_reducible repeat apply pK); exact BK103.out⟩, ⟨bl_⟩⟩
        ·replace c16 := Bool.eq_false_iff.mpr c16
         subst c16
         have H1 : (some false) = some r := by rw [if_neg (show ¬ (false = true) by decide)] at H; exact H
         clear H
         have H := H1
         clear H1
         obtain rfl := Option.some.inj H
         obtain ⟨hcz19_0, hcz19_1, hcz19_2, hcz19_3, hcz19_4, hcz19_5, hfz19_0, hfz19_1, hfz19_2, hfz19_3, hfz19_4, hfz19_5⟩ := cells6 (show wr.heap[gb103]? = some (.cells #[.int .i64 a0_0, .int .i64 a0_1, .slice A0_2 l0_2.length c0_2, .int .i64 a0_3, .bool a0_4, .bool a0_5] _ (0, 0)) from BK103.out)
         have p105 : 0 ≤ (x3_2 : Int) := of_decide_eq_true (by first | (with_reducible assumption) | assumption)
         have q105 : x3_2 < (l0_2.length : Int) := of_decide_eq_true (by first | (with_reducible assumption) | assumption)
         obtain ⟨ad105, e105, hx105_0, hx105_1, hx105_2, hx105_3, hx105_4, hx105_5⟩ := at_T35 HR0_2.out x3_2 p105 q105
         cases e105
         replace hx105_0 := (HB.out.cell (World.block_lt_of_cell? w _ hx105_0)).trans hx105_0
         replace hx105_1 := (HB.out.cell (World.block_lt_of_cell? w _ hx105_1)).trans hx105_1
         replace hx105_2 := (HB.out.cell (World.block_lt_of_cell? w _ hx105_2)).trans hx105_2
         replace hx105_3 := (HB.out.cell (World.block_lt_of_cell? w _ hx105_3)).trans hx105_3
         replace hx105_4 := (HB.out.cell (World.block_lt_of_cell? w _ hx105_4)).trans hx105_4
         replace hx105_5 := (HB.out.cell (World.block_lt_of_cell? w _ hx105_5)).trans hx105_5
         replace p105 := eq_true p105
         replace q105 := eq_true q105
         go_wp2_with (first | ((with_reducible refine gate_callee (f := 46) rfl ?_); refine goesL_ (some 46) rfl rfl Tryd.func46 (by kernel_rfl) rfl #[.agg #[.bool ((rd_T35 l0_2 x3_2).f0), .bool ((rd_T35 l0_2 x3_2).f1.f0), .bool ((rd_T35 l0_2 x3_2).f1.f1), .int .i64 ((rd_T35 l0_2 x3_2).f1.f2), .bool ((rd_T35 l0_2 x3_2).f1.f3), .int .u8 ((rd_T35 l0_2 x3_2).f2)]] rfl ag_ ?_; (with_reducible refine (shutterref10_Cell.calls ((rd_T35 l0_2 x3_2).f0) ((rd_T35 l0_2 x3_2).f1.f0) ((rd_T35 l0_2 x3_2).f1.f1) ((rd_T35 l0_2 x3_2).f1.f2) ((rd_T35 l0_2 x3_2).f1.f3) ((rd_T35 l0_2 x3_2).f2) false _ A15.out).mono ?_); rintro e w20 ⟨rfl, hb⟩; refine ⟨_, rfl, ?_⟩; have n0_ := Aside0.mk (blk_below (g := gb103) (o := .cells #[.int .i64 a0_0, .int .i64 a0_1, .slice (some ad105) l0_2.length c0_2, .int .i64 a0_3, .bool a0_4, .bool a0_5] 24 (0, 0)) (by (with_reducible repeat apply pK); exact BK103.out) hb); have n1_ := Aside0.mk (below_step bl_ hb); clear BK103; clear HB; have BK103 := n0_; have HB := n1_; clear n0_ n1_; (try clear hb); (try clear hb2); (try clear hk); (try clear hi)))
         go_ret
         exact ⟨by first | rfl | (simp [errW_none, errW_some] <;> rfl) | (simp [*, errW_none, errW_some] <;> rfl), bl_⟩
       ·rw [if_neg c14] at H
        exact absurd H (by simp)
      ·rw [if_neg c13] at H
       have c13b0 : decide (x3_2 < (l0_2.length : Int)) = false := decide_eq_false c13
       clear c13
       obtain rfl := Option.some.inj H
       obtain ⟨hcz21_0, hcz21_1, hcz21_2, hcz21_3, hcz21_4, hcz21_5, hfz21_0, hfz21_1, hfz21_2, hfz21_3, hfz21_4, hfz21_5⟩ := cells6 (show wr.heap[gb103]? = some (.cells #[.int .i64 a0_0, .int .i64 a0_1, .slice A0_2 l0_2.length c0_2, .int .i64 a0_3, .bool a0_4, .bool a0_5] _ (0, 0)) from BK103.out)
       go_wp2
       go_ret
       exact ⟨by first | rfl | (simp [errW_none, errW_some] <;> rfl) | (simp [*, errW_none, errW_some] <;> rfl), bl_⟩

/-! ### shutterref10_Few: function 18 -/
def shutterref10_Few.f (k : Nat) (a0_0 : Int) (a0_1 : Int) (l0_2 : List (S35)) (a0_3 : Int) (a0_4 : Bool) (a0_5 : Bool) : Option (Bool) := if (l0_2.length : Int) ≤ 200 then ((shutterref10_Right.f k a0_0 a0_1 l0_2 a0_3 a0_4 a0_5).bind fun t108 => (some t108)) else (some false)
theorem shutterref10_Few.mono : ∀ a0 a1 a2 a3 a4 a5 k, LeO (shutterref10_Few.f k a0 a1 a2 a3 a4 a5) (shutterref10_Few.f (k + 1) a0 a1 a2 a3 a4 a5) := by
 intro a0 a1 a2 a3 a4 a5 k
 unfold shutterref10_Few.f
 repeat' first
   | (with_reducible exact shutterref10_Right.mono _ _ _ _ _ _ _)
   | (with_reducible exact LeO.refl _)
   | (with_reducible exact LeO.none _)
   | (with_reducible refine LeO.ite ?_ ?_)
   | (with_reducible refine LeO.bind ?_ (fun _ => ?_))
   | exact shutterref10_Right.mono _ _ _ _ _ _ _
   | exact LeO.none _
   | refine LeO.ite ?_ ?_
   | refine LeO.bind ?_ (fun _ => ?_)
set_option maxHeartbeats 8000000 in
set_option maxRecDepth 100000 in
theorem shutterref10_Few.calls (k : Nat) (a0_0 : Int) (a0_1 : Int) (A0_2 : Option Addr) (c0_2 : Nat) (l0_2 : List (S35)) (a0_3 : Int) (a0_4 : Bool) (a0_5 : Bool) (r : Bool) (w : World) (hr0_2 : Kd.C k35 w A0_2 l0_2.length l0_2) (hc0_2 : l0_2.length ≤ c0_2) (h : shutterref10_Few.f k a0_0 a0_1 l0_2 a0_3 a0_4 a0_5 = some r) :
  Calls Tryd.prog 18 #[.agg #[.int .i64 a0_0, .int .i64 a0_1, .slice A0_2 l0_2.length c0_2, .int .i64 a0_3, .bool a0_4, .bool a0_5]] w fun e w' => e = .returned (.bool r) ∧ Below w.heap.size w w' := by
 have hu24 := Tryd.underlying24
 have HR0_2 := Aside0.mk hr0_2
 have HC0_2 := Aside0.mk hc0_2
 clear hr0_2 hc0_2
 have HB := Aside0.mk (Below.refl w.heap.size w)
 have H : (if (l0_2.length : Int) ≤ 200 then ((shutterref10_Right.f k a0_0 a0_1 l0_2 a0_3 a0_4 a0_5).bind fun t108 => (some t108)) else (some false)) = some r := h
 clear h
 by_cases c2 : (l0_2.length : Int) ≤ 200
 ·rw [if_pos c2] at H
  have c2b0 : decide ((l0_2.length : Int) ≤ 200) = true := decide_eq_true c2
  have c2b1 : decide (l0_2.length ≤ 200) = true := decide_eq_true (by omega)
  clear c2
  replace H := Option.bind_eq_some_iff.mp H
  obtain ⟨t108, A30, H⟩ := H
  replace H : (some t108) = some r := H
  have A3 := Aside0.mk A30
  clear A30
  obtain rfl := Option.some.inj H
  go_enter Tryd.func18, Tryd.ntmps18
  go_wp2_with (first | ((with_reducible refine gate_dst (N := 1) rfl ?_); refine box_event ?hg (N := 1) ?hd (cs := #[.int .i64 a0_0, .int .i64 a0_1, .slice A0_2 l0_2.length c0_2, .int .i64 a0_3, .bool a0_4, .bool a0_5]) (t := 24) ?hr ?_; (case hd => rfl); (case hg => rfl); (case hr => first | (go_simp; done) | (go_simp; rfl)); intro gb107 hg w4 hbox hb; have n0_ := Aside0.mk (below_step bl_ hb); have n1_ := Aside0.mk (hbox); have n2_ := Aside0.mk ((le_new hg (below_size bl_) : w.heap.size ≤ gb107)); have n3_ := Aside0.mk ((le_new hg (below_size bl_) : w.heap.size ≤ gb107)); clear HB; have HB := n0_; have BK107 := n1_; have GW107 := n2_; have GE107 := n3_; clear n0_ n1_ n2_ n3_; clear hb hbox hg; obtain ⟨hcz5_0, hcz5_1, hcz5_2, hcz5_3, hcz5_4, hcz5_5, hfz5_0, hfz5_1, hfz5_2, hfz5_3, hfz5_4, hfz5_5⟩ := cells6 (show w4.heap[gb107]? = some (.cells #[.int .i64 a0_0, .int .i64 a0_1, .slice A0_2 l0_2.length c0_2, .int .i64 a0_3, .bool a0_4, .bool a0_5] _ (0, 0)) from BK107.out)) | (go_at_call 20; (with_reducible refine (shutterref10_Right.calls k a0_0 a0_1 _ _ l0_2 a0_3 a0_4 a0_5 t108 _ ?side1 ?side2 A3.out).mono ?_); (case side1 => repeat (first | exact (Kd.C_below HR0_2.out HB.out) | (with_reducible apply pC))); (case side2 => exact HC0_2.out); rintro e w6 ⟨rfl, hb⟩; have n0_ := Aside0.mk (blk_below (g := gb107) (o := .cells #[.int .i64 a0_0, .int .i64 a0_1, .slice A0_2 l0_2.length c0_2, .int .i64 a0_3, .bool a0_4, .bool a0_5] 24 (0, 0)) (by (with_reducible repeat apply pK); exact BK107.out) hb); have n1_ := Aside0.mk (below_step bl_ hb); clear BK107; clear HB; have BK107 := n0_; have HB := n1_; clear n0_ n1_; (try clear hb); (try clear hb2); (try clear hk); (try clear hi)))
  go_ret
  exact ⟨by first | rfl | (simp [errW_none, errW_some] <;> rfl) | (simp [*, errW_none, errW_some] <;> rfl), bl_⟩
 ·rw [if_neg c2] at H
  have c2b0 : decide ((l0_2.length : Int) ≤ 200) = false := decide_eq_false c2
  have c2b1 : decide (l0_2.length ≤ 200) = false := decide_eq_false (by omega)
  clear c2
  obtain rfl := Option.some.inj H
  go_enter Tryd.func18, Tryd.ntmps18
  go_wp2_with (first | ((with_reducible refine gate_dst (N := 1) rfl ?_); refine box_event ?hg (N := 1) ?hd (cs := #[.int .i64 a0_0, .int .i64 a0_1, .slice A0_2 l0_2.length c0_2, .int .i64 a0_3, .bool a0_4, .bool a0_5]) (t := 24) ?hr ?_; (case hd => rfl); (case hg => rfl); (case hr => first | (go_simp; done) | (go_simp; rfl)); intro gb107 hg w7 hbox hb; have n0_ := Aside0.mk (below_step bl_ hb); have n1_ := Aside0.mk (hbox); have n2_ := Aside0.mk ((le_new hg (below_size bl_) : w.heap.size ≤ gb107)); have n3_ := Aside0.mk ((le_new hg (below_size bl_) : w.heap.size ≤ gb107)); clear HB; have HB := n0_; have BK107 := n1_; have GW107 := n2_; have GE107 := n3_; clear n0_ n1_ n2_ n3_; clear hb hbox hg; obtain ⟨hcz8_0, hcz8_1, hcz8_2, hcz8_3, hcz8_4, hcz8_5, hfz8_0, hfz8_1, hfz8_2, hfz8_3, hfz8_4, hfz8_5⟩ := cells6 (show w7.heap[gb107]? = some (.cells #[.int .i64 a0_0, .int .i64 a0_1, .slice A0_2 l0_2.length c0_2, .int .i64 a0_3, .bool a0_4, .bool a0_5] _ (0, 0)) from BK107.out)))
  go_ret
  exact ⟨by first | rfl | (simp [errW_none, errW_some] <;> rfl) | (simp [*, errW_none, errW_some] <;> rfl), bl_⟩

/-! ### api_Code: function 25 -/
section
/-- api.Code: an error's number, a spot's number, or 0. -/
def api_Code.f (a0_0 : Option Er) (l0_1 : List S164) : Option Int :=
 match a0_0 with
 | none => some 0
 | some (.num n) => some n
 | some .spot => match l0_1 with | [s] => some s.f1 | _ => none
set_option maxRecDepth 100000 in
set_option maxHeartbeats 4000000 in
theorem api_Code.calls (a0_0 : Option Er) (A0_1 : Option Addr) (c0_1 : Nat) (l0_1 : List S164) (r : Int) (w : World) (hr0_1 : Kd.C k164 w A0_1 l0_1.length l0_1) (hc0_1 : l0_1.length ≤ c0_1) (hG : LaidG w) (h : api_Code.f a0_0 l0_1 = some r) :
  Calls Tryd.prog 25 #[errW (.slice A0_1 l0_1.length c0_1) a0_0] w fun e w' => e = .returned (.int .i64 r) ∧ Below w.heap.size w w' := by
 rcases a0_0 with _ | q
 ·obtain rfl := Option.some.inj h
  rw [errW_none]
  clear hr0_1 h
  go_enter Tryd.func25, Tryd.ntmps25
  go_wp2
  go_ret
  exact ⟨rfl, below_alloc (Below.refl _ _) _⟩
 ·cases q with
  | num n =>
   obtain rfl := Option.some.inj h
   rw [errW_some, show (Er.num n).ty = 52 from rfl, show (Er.num n).pay _ = .int .i64 n from rfl]
   clear hr0_1 h
   have HA := Aside0.mk (EA.hit n ⟨w.heap.size, 0, none⟩ (.int .i64 0) (w.alloc (.cells #[.int .i64 0] 52)) (laidG_alloc hG _) (by simp) (by rw [frozen?_alloc_cells]; simp [World.frozen?]))
   go_enter Tryd.func25, Tryd.ntmps25
   go_wp2_with (go_at_call 49; refine HA.out.mono ?_; rintro e w' ⟨rfl, rfl⟩)
   go_ret
   exact ⟨rfl, below_alloc (below_alloc (below_alloc (below_alloc (below_alloc (Below.refl _ _) _) _) _) _) _⟩
  | spot =>
   match l0_1, hr0_1, hc0_1, h with
   | [s], hr, hc, h =>
    obtain rfl := Option.some.inj h
    obtain ⟨ad, rfl, h0, h1⟩ := spot_at hr
    rw [errW_some, show Er.spot.ty = 76 from rfl, show Er.spot.pay (.slice (some ad) ([s] : List S164).length c0_1) = .pointer (some ad) from rfl]
    have hlt := World.block_lt_of_cell? w ⟨ad.block, ad.off + 1, none⟩ h1
    have HA := Aside0.mk (EA.spot ad s.f1 ⟨w.heap.size, 0, none⟩ (.int .i64 0) (w.alloc (.cells #[.int .i64 0] 52)) (by rw [World.cell?_alloc_lt _ _ ⟨ad.block, ad.off + 1, none⟩ hlt]; exact h1) (laidG_alloc hG _) (by simp) (by rw [frozen?_alloc_cells]; simp [World.frozen?]))
    clear h0 h1 hr hlt h
    go_enter Tryd.func25, Tryd.ntmps25
    go_wp2_with (go_at_call 49; refine HA.out.mono ?_; rintro e w' ⟨rfl, rfl⟩)
    go_ret
    exact ⟨rfl, below_alloc (below_alloc (below_alloc (below_alloc (below_alloc (Below.refl _ _) _) _) _) _) _⟩
end

/-! ### field_Begin: function 62 -/
section
open Go.Shelf
attribute [local go_sem] Oper.semAt_some

def isF (l : List S35) (i : Int) : Bool := (rd_T35 l i).f0
def findW (p : Int → Bool) (g : Nat → Int) : Nat → Nat → Int
 | 0, _ => -1
 | c + 1, s => if p (g s) = true then g s else findW p g c (s + 1)
theorem findW_eq (p : Int → Bool) (g : Nat → Int) : ∀ c s j, s ≤ j → j < s + c → p (g j) = true → (∀ i, s ≤ i → i < j → p (g i) = false) → findW p g c s = g j
 | 0, s, j, h1, h2, _, _ => by omega
 | c + 1, s, j, h1, h2, hp, hn => by
  unfold findW
  by_cases e : s = j
  ·subst e; rw [if_pos hp]
  ·rw [if_neg (by rw [hn s (Nat.le_refl _) (by omega)]; decide)]
   exact findW_eq p g c (s + 1) j (by omega) (by omega) hp (fun i a b => hn i (by omega) b)
theorem findW_none (p : Int → Bool) (g : Nat → Int) : ∀ c s, (∀ i, s ≤ i → i < s + c → p (g i) = false) → findW p g c s = -1
 | 0, s, _ => rfl
 | c + 1, s, hn => by
  unfold findW
  rw [if_neg (by rw [hn s (Nat.le_refl _) (by omega)]; decide)]
  exact findW_none p g c (s + 1) (fun i a b => hn i (by omega) (by omega))
theorem findW_cases (p : Int → Bool) (g : Nat → Int) : ∀ c s, (findW p g c s = -1 ∧ ∀ i, s ≤ i → i < s + c → p (g i) = false) ∨ ∃ j, s ≤ j ∧ j < s + c ∧ p (g j) = true ∧ (∀ i, s ≤ i → i < j → p (g i) = false) ∧ findW p g c s = g j
 | 0, s => .inl ⟨rfl, fun i a b => by omega⟩
 | c + 1, s => by
  unfold findW
  by_cases e : p (g s) = true
  ·exact .inr ⟨s, Nat.le_refl _, by omega, e, fun i a b => by omega, by rw [if_pos e]⟩
  ·rw [if_neg e]
   rcases findW_cases p g c (s + 1) with ⟨h1, h2⟩ | ⟨j, h1, h2, h3, h4, h5⟩
   ·exact .inl ⟨h1, fun i a b => by
     by_cases ei : i = s
     ·subst ei; simpa using e
     ·exact h2 i (by omega) (by omega)⟩
   ·exact .inr ⟨j, by omega, by omega, h3, fun i a b => by
     by_cases ei : i = s
     ·subst ei; simpa using e
     ·exact h4 i (by omega) b, h5⟩

/-- where the field begins that a cell lies in -/
def beginI (l : List S35) (a : Int) : Int := findW (isF l) (fun j => (a - j) % (l.length : Int)) l.length 0

theorem begin_range (l : List S35) (a : Int) (hp : 0 < l.length) : beginI l a = -1 ∨ (0 ≤ beginI l a ∧ beginI l a < l.length ∧ isF l (beginI l a) = true) := by
 rcases findW_cases (isF l) (fun j => (a - j) % (l.length : Int)) l.length 0 with ⟨h, _⟩ | ⟨j, _, _, h3, _, h⟩
 ·exact .inl h
 ·right
  unfold beginI
  rw [h]
  exact ⟨Int.emod_nonneg _ (by omega), Int.emod_lt_of_pos _ (by omega), h3⟩

theorem begin_here (l : List S35) (a : Int) (h0 : 0 ≤ a) (h1 : a < l.length) (h : isF l a = true) : beginI l a = a := by
 have e : (a - ((0 : Nat) : Int)) % (l.length : Int) = a := by simp; exact Int.emod_eq_of_lt h0 h1
 have := findW_eq (isF l) (fun j => (a - j) % (l.length : Int)) l.length 0 0 (by omega) (by omega) (by show isF l ((a - ((0 : Nat) : Int)) % (l.length : Int)) = true; rw [e]; exact h) (fun i a b => by omega)
 rw [beginI, this]; exact e
theorem way_back (n : Nat) (a : Int) (j : Nat) : wayI n a (-1) j = (a - ((j + 1 : Nat) : Int)) % (n : Int) := by
 unfold wayI sgnI; simp; congr 1; omega
theorem begin_way (l : List S35) (a : Int) (h0 : 0 ≤ a) (h1 : a < l.length) (h : isF l a = false) (k : Nat) (hk : k < l.length) (hp : isF l (wayI l.length a (-1) k) = true) (hn : ∀ i, i < k → isF l (wayI l.length a (-1) i) = false) : beginI l a = wayI l.length a (-1) k := by
 have hkn : k + 1 < l.length := by
  rcases Nat.lt_or_ge (k + 1) l.length with h' | h'
  ·exact h'
  ·have ek : k + 1 = l.length := by omega
   have : wayI l.length a (-1) k = a := by
    rw [way_back, ek, Int.sub_emod_right]; exact Int.emod_eq_of_lt h0 h1
   rw [this, h] at hp; exact absurd hp (by decide)
 have := findW_eq (isF l) (fun j => (a - j) % (l.length : Int)) l.length 0 (k + 1) (by omega) (by omega) (by show isF l ((a - ((k + 1 : Nat) : Int)) % (l.length : Int)) = true; rw [← way_back]; exact hp) (fun i _ b => by
  show isF l ((a - (i : Int)) % (l.length : Int)) = false
  rcases i with _ | i
  ·simp; rw [Int.emod_eq_of_lt h0 h1]; exact h
  ·rw [← way_back]; exact hn i (by omega))
 rw [beginI, this]; exact (way_back _ _ _).symm
theorem begin_none (l : List S35) (a : Int) (h0 : 0 ≤ a) (h1 : a < l.length) (h : isF l a = false) (hn : ∀ i, i < l.length → isF l (wayI l.length a (-1) i) = false) : beginI l a = -1 := by
 refine findW_none _ _ _ _ (fun i _ b => ?_)
 show isF l ((a - (i : Int)) % (l.length : Int)) = false
 rcases i with _ | i
 ·simp; rw [Int.emod_eq_of_lt h0 h1]; exact h
 ·rw [← way_back]; exact hn i (by omega)

theorem cell_f0 {w : World} {A : Option Addr} {l : List S35} (hr : Kd.C k35 w A l.length l) (i : Int) (h0 : 0 ≤ i) (h1 : i < l.length) : ∃ ad, A = some ad ∧ w.cell? (ad.add (i.toNat * 6)) = some (.bool (isF l i)) ∧ (ad.add (i.toNat * 6)).block < w.heap.size := by
 obtain ⟨ad, e, h, _⟩ := at_T35 hr i h0 h1
 exact ⟨ad, e, h, World.block_lt_of_cell? w _ h⟩

set_option maxRecDepth 100000 in
set_option maxHeartbeats 2000000 in
theorem Begin_here (r c : Int) (A : Option Addr) (cp : Nat) (l : List S35) (cu : Int) (lo ins : Bool) (a : Int) (w : World) (hr : Kd.C k35 w A l.length l) (hc : l.length ≤ cp) (h0 : 0 ≤ a) (h1 : a < l.length) (hf : isF l a = true) :
  Calls Tryd.prog 62 #[.agg #[.int .i64 r, .int .i64 c, .slice A l.length cp, .int .i64 cu, .bool lo, .bool ins], .int .i64 a] w fun e w' => e = .returned (.int .i64 (beginI l a)) ∧ Below w.heap.size w w' := by
 have hb := begin_here l a h0 h1 hf
 rw [hb]
 obtain ⟨ad, rfl, hcell, hlt⟩ := cell_f0 hr a h0 h1
 rw [hf] at hcell
 clear hf hb
 have hu24 := Tryd.underlying24
 have hu35 := Tryd.underlying35
 go_enter Tryd.func62, Tryd.ntmps62
 go_wp2
 refine bodyPost_ret (v := .int .i64 a) (by simp [results, Tryd.results62, go_sem]) rfl ⟨rfl, ?_⟩
 exact ((Below.refl _ w).alloc (Nat.le_refl _) _).alloc (by simp) _

theorem uptoI_last {α : Type} (f : Nat → α) (k : Nat) (ini : List α) (x : α) (h : uptoI f k = ini ++ [x]) : ∃ j, k = j + 1 ∧ ini = uptoI f j ∧ x = f j := by
 rcases k with _ | j
 ·simp [uptoI] at h
 ·rw [uptoI_succ] at h
  obtain ⟨e1, e2⟩ := List.append_inj' h rfl
  exact ⟨j, rfl, e1.symm, by simpa using e2.symm⟩
theorem mem_uptoI {α : Type} (f : Nat → α) (k j : Nat) (h : j < k) : f j ∈ uptoI f k := by
 simp only [uptoI, List.mem_map, List.mem_range]; exact ⟨j, h, rfl⟩

set_option maxRecDepth 100000 in
set_option maxHeartbeats 4000000 in
theorem Begin_loop (r c : Int) (A : Option Addr) (cp : Nat) (l : List S35) (cu : Int) (lo ins : Bool) (a : Int) (w : World) (hr : Kd.C k35 w A l.length l) (hc : l.length ≤ cp) (hn : l.length ≤ 16383) (h0 : 0 ≤ a) (h1 : a < l.length) (hf : isF l a = false) :
  CallsIn Fence.wide 5 Tryd.prog 62 #[.agg #[.int .i64 r, .int .i64 c, .slice A l.length cp, .int .i64 cu, .bool lo, .bool ins], .int .i64 a] w fun e w' => e = .returned (.int .i64 (beginI l a)) ∧ Below w.heap.size w w' := by
 have hpos : 0 < l.length := by omega
 obtain ⟨ad, rfl, hcell, hlt⟩ := cell_f0 hr a h0 h1
 have Hfa := Aside0.mk hf
 rw [hf] at hcell
 clear hf
 have hu24 := Tryd.underlying24
 have hu35 := Tryd.underlying35
 refine callsIn_of_wp_marks Tryd.func62 rfl trivial ?_ rfl
 simp only [Tryd.ntmps62, List.size_toArray, List.length_cons, List.length_nil, Nat.reduceAdd, Nat.reduceSub, Array.replicate_succ, Array.replicate_zero, List.push_toArray, List.append_toArray, List.nil_append, List.cons_append]
 gi_wp2_with (refine ⟨trivial, ?_⟩; gi_at_call 75; refine (callsIn_wide.2 (Round_exact r c _ _ cp cu lo ins a (-1) _)).mono ?_; rintro e w' ⟨rfl, rfl⟩)
 have hB0 : Below w.heap.size w (((((w.alloc (.cells #[.int .i64 r, .int .i64 c, .slice (some ad) l.length cp, .int .i64 cu, .bool lo, .bool ins] 24)).alloc (.cells #[.int .i64 0] 3)).alloc (.cells #[.int .i64 r, .int .i64 c, .slice (some ad) l.length cp, .int .i64 cu, .bool lo, .bool ins] 24)).alloc (.cells #[.int .i64 a] 3)).alloc (.cells #[.int .i64 (-1)] 3)) :=
  (((((Below.refl _ w).alloc (Nat.le_refl _) _).alloc (by simp) _).alloc (by simp; omega) _).alloc (by simp; omega) _).alloc (by simp; omega) _
 have k1 := blk_new w (.cells #[.int .i64 r, .int .i64 c, .slice (some ad) l.length cp, .int .i64 cu, .bool lo, .bool ins] 24)
 have k2 := blk_new (w.alloc (.cells #[.int .i64 r, .int .i64 c, .slice (some ad) l.length cp, .int .i64 cu, .bool lo, .bool ins] 24)) (.cells #[.int .i64 0] 3)
 have k3 := blk_new ((w.alloc (.cells #[.int .i64 r, .int .i64 c, .slice (some ad) l.length cp, .int .i64 cu, .bool lo, .bool ins] 24)).alloc (.cells #[.int .i64 0] 3)) (.cells #[.int .i64 r, .int .i64 c, .slice (some ad) l.length cp, .int .i64 cu, .bool lo, .bool ins] 24)
 have k4 := blk_new (((w.alloc (.cells #[.int .i64 r, .int .i64 c, .slice (some ad) l.length cp, .int .i64 cu, .bool lo, .bool ins] 24)).alloc (.cells #[.int .i64 0] 3)).alloc (.cells #[.int .i64 r, .int .i64 c, .slice (some ad) l.length cp, .int .i64 cu, .bool lo, .bool ins] 24)) (.cells #[.int .i64 a] 3)
 have k5 := blk_new ((((w.alloc (.cells #[.int .i64 r, .int .i64 c, .slice (some ad) l.length cp, .int .i64 cu, .bool lo, .bool ins] 24)).alloc (.cells #[.int .i64 0] 3)).alloc (.cells #[.int .i64 r, .int .i64 c, .slice (some ad) l.length cp, .int .i64 cu, .bool lo, .bool ins] 24)).alloc (.cells #[.int .i64 a] 3)) (.cells #[.int .i64 (-1)] 3)
 simp only [World.size_alloc] at k2 k3 k4 k5
 refine wpIn_rangeFunc_ownG rfl (by omega) (gf := 93) (lb := #[.pointer (some ⟨w.heap.size + 1 + 1, 0, none⟩), .pointer (some ⟨w.heap.size + 1 + 1 + 1, 0, none⟩), .pointer (some ⟨w.heap.size + 1 + 1 + 1 + 1, 0, none⟩)]) rfl trivial (enters_of Tryd.func93 (by kernel_rfl) rfl)
  (round_stops 4 (by omega) (w.heap.size + 1 + 1) (w.heap.size + 1 + 1 + 1) (w.heap.size + 1 + 1 + 1 + 1) r c (some ad) l.length cp cu lo ins a (-1) hpos hn h0 h1 _ (blk_alloc (blk_alloc k3 _) _) (blk_alloc k4 _) k5) Keep3.trans (Keep3.put (by simp) (by simp) (by simp)) (Below.refl _ _) (fun _ => rfl)
  (fun pre W => ((∀ x ∈ pre, isF l x.1 = false) ∧ W.heap[w.heap.size]? = some (.cells #[.int .i64 r, .int .i64 c, .slice (some ad) l.length cp, .int .i64 cu, .bool lo, .bool ins] 24 (0, 0)) ∧ Boxed W (w.heap.size + 1) 3 (.int .i64 0)) ∧ Below w.heap.size w W)
  (fun c pre W => (c = .ret ∧ ∃ ini last, pre = ini ++ [last] ∧ (∀ x ∈ ini, isF l x.1 = false) ∧ isF l last.1 = true ∧ Boxed W (w.heap.size + 1) 3 (.int .i64 last.1)) ∧ Below w.heap.size w W)
  (OwnFrom.and (Own.from (fun s A B row hs hg hr => ⟨hs.1, (grownBy_keeps_cells hg hr hs.2.1 rfl).trans hs.2.1, (grownBy_keeps_cells hg hr hs.2.2 rfl).trans hs.2.2⟩) _) (ownFrom_below (Nat.le_refl _) (by simp; omega)))
  (fun c => OwnFrom.and (Own.from (fun s A B row hs hg hr => by obtain ⟨hc, ini, last, e1, e2, e3, e4⟩ := hs; exact ⟨hc, ini, last, e1, e2, e3, (grownBy_keeps_cells hg hr e4 rfl).trans e4⟩) _) (ownFrom_below (Nat.le_refl _) (by simp; omega)))
  ⟨⟨by simp, blk_alloc (blk_alloc (blk_alloc (blk_alloc k1 _) _) _) _, blk_alloc (blk_alloc (blk_alloc k2 _) _) _⟩, hB0⟩
  (fun x => { tmps := #[.agg #[.int .i64 r, .int .i64 c, .slice (some ad) l.length cp, .int .i64 cu, .bool lo, .bool ins], .int .i64 a, .pointer (some ⟨w.heap.size, 0, none⟩), undef, .pointer (some ⟨w.heap.size + 1, 0, none⟩), .int .i64 x.1, .pointer (some ⟨w.heap.size, 2, none⟩), .slice (some ad) l.length cp, .int .i64 a, .pointer (some (ad.add (a.toNat * 6))), .pointer (some (ad.add (a.toNat * 6))), .bool false, undef, .agg #[.int .i64 r, .int .i64 c, .slice (some ad) l.length cp, .int .i64 cu, .bool lo, .bool ins], .int .i64 a, .func (.func 93) #[] #[.pointer (some ⟨w.heap.size + 1 + 1, 0, none⟩), .pointer (some ⟨w.heap.size + 1 + 1 + 1, 0, none⟩), .pointer (some ⟨w.heap.size + 1 + 1 + 1 + 1, 0, none⟩)], .int .i64 x.1, undef, undef, undef, undef, undef, undef, undef], defers := [] }) ?assign ?body ?done ?stop
 case assign =>
  intro l x W K hK
  gi_wp2
  exact hK
 case body =>
  rintro lp pre x W ⟨⟨hp, hS, hR⟩, hB⟩ _
  obtain ⟨ad', e', hcx, hltx⟩ := cell_f0 hr x.1 x.2.1 x.2.2
  cases e'
  have hcW := (hB.cell hltx).trans hcx
  have s2 := (blk_cell hS 2).trans rfl
  have x0 := x.2.1
  have x1 := x.2.2
  have rC := hR.cell
  have rF := hR.frozen
  cases hfx : isF l x.1 with
  | true =>
   rw [hfx] at hcW
   gi_wp2
   exact ⟨(KeepsOthers.setCell _ _ _).from _, ⟨rfl, pre, x, rfl, hp, hfx, hR.set _⟩, hB.setCell (p := ⟨w.heap.size + 1, 0, none⟩) (Nat.le_succ _) _⟩
  | false =>
   rw [hfx] at hcW
   gi_wp2
   exact ⟨KeepsFrom.refl _ _, Keep3.refl _ _ _ _, ⟨fun y hy => (List.mem_append.1 hy).elim (hp y) (fun e => by simp at e; subst e; exact hfx), hS, hR⟩, hB⟩
 case done =>
  rintro D ys W hD rfl ⟨⟨hne, hS, hR⟩, hB⟩ hK
  have rC := hR.cell
  have rF := hR.frozen
  gi_wp2
  have hK' := (KeepsOthers.setCell W ⟨w.heap.size + 1, 0, none⟩ (.int .i64 (-1))).same D _ hK rfl
  refine ⟨by simp, .inl ⟨_, _, rfl, run_takeDeferred hK', ?_⟩⟩
  have hc5 := cell_kept (hR.set (.int .i64 (-1))).cell (grownBy_putObj' _ D (.deferred none)) (fun r e => by cases e; exact ⟨_, hK', rfl⟩)
  have hE := begin_none l a h0 h1 Hfa.out (fun i hi => hne _ (mem_uptoI (wayS hpos a (-1)) l.length i hi))
  refine ⟨.int .i64 (-1), ?_, by rw [hE], (hB.setCell (p := ⟨w.heap.size + 1, 0, none⟩) (Nat.le_succ _) _).trans (belowK_b (w := w) (Nat.le_refl _) _ D _ _ (by simp at hD; omega) hK' rfl rfl)⟩
  simp [results, Tryd.results62, go_sem, hc5]
 case stop =>
  rintro D c pre W hD ⟨k, hk, rfl⟩ ⟨⟨rfl, ini, last, e1, e2, e3, hR⟩, hB⟩ hK
  gi_wp2
  refine ⟨by simp, .inl ⟨_, _, rfl, run_takeDeferred hK, ?_⟩⟩
  have hc5 := cell_kept hR.cell (grownBy_putObj' _ D (.deferred none)) (fun r e => by cases e; exact ⟨_, hK, rfl⟩)
  obtain ⟨j, rfl, rfl, rfl⟩ := uptoI_last _ _ _ _ e1
  have hE := begin_way l a h0 h1 Hfa.out j (by omega) e3 (fun i hi => e2 _ (mem_uptoI (wayS hpos a (-1)) j i hi))
  refine ⟨.int .i64 (wayI l.length a (-1) j), ?_, by rw [hE], hB.trans (belowK_b (w := w) (Nat.le_refl _) _ D _ _ (by simp at hD; omega) hK rfl rfl)⟩
  simp [results, Tryd.results62, go_sem, hc5]
  rfl

theorem guard3 {α : Type} {p q s : Prop} [Decidable p] [Decidable q] [Decidable s] {x r : α} (h : (if p then (if q then (if s then some x else none) else none) else none) = some r) : p ∧ q ∧ s ∧ x = r := by
 by_cases hp : p
 ·rw [if_pos hp] at h
  by_cases hq : q
  ·rw [if_pos hq] at h
   by_cases hs : s
   ·rw [if_pos hs] at h; exact ⟨hp, hq, hs, Option.some.inj h⟩
   ·rw [if_neg hs] at h; cases h
  ·rw [if_neg hq] at h; cases h
 ·rw [if_neg hp] at h; cases h

def field_Begin.f (a0_0 : Int) (a0_1 : Int) (l0_2 : List (S35)) (a0_3 : Int) (a0_4 : Bool) (a0_5 : Bool) (a1 : Int) : Option Int := if l0_2.length ≤ 16383 then (if 0 ≤ a1 then (if a1 < (l0_2.length : Int) then (some (beginI l0_2 a1)) else (none)) else (none)) else (none)
theorem field_Begin.calls (a0_0 : Int) (a0_1 : Int) (A0_2 : Option Addr) (c0_2 : Nat) (l0_2 : List (S35)) (a0_3 : Int) (a0_4 : Bool) (a0_5 : Bool) (a1 : Int) (r : Int) (w : World) (hr0_2 : Kd.C k35 w A0_2 l0_2.length l0_2) (hc0_2 : l0_2.length ≤ c0_2) (h : field_Begin.f a0_0 a0_1 l0_2 a0_3 a0_4 a0_5 a1 = some r) :
  Calls Tryd.prog 62 #[.agg #[.int .i64 a0_0, .int .i64 a0_1, .slice A0_2 l0_2.length c0_2, .int .i64 a0_3, .bool a0_4, .bool a0_5], .int .i64 a1] w fun e w' => e = .returned (.int .i64 r) ∧ Below w.heap.size w w' := by
 obtain ⟨hn, h0, h1, rfl⟩ := guard3 h
 cases hf : isF l0_2 a1 with
 | true => exact Begin_here a0_0 a0_1 A0_2 c0_2 l0_2 a0_3 a0_4 a0_5 a1 w hr0_2 hc0_2 h0 h1 hf
 | false => exact callsIn_wide.1 (Begin_loop a0_0 a0_1 A0_2 c0_2 l0_2 a0_3 a0_4 a0_5 a1 w hr0_2 hc0_2 hn h0 h1 hf)
end

/-! ### field_Of: function 69 -/
def field_Of.f (a0_0 : Int) (a0_1 : Int) (l0_2 : List (S35)) (a0_3 : Int) (a0_4 : Bool) (a0_5 : Bool) (a1 : Int) : Option (Bool × Bool × Int × Bool) := (field_Begin.f a0_0 a0_1 l0_2 a0_3 a0_4 a0_5 a1).bind fun t111 => (if t111 < 0 then (some (false, false, 0, false)) else (if 0 ≤ t111 then (if t111 < (l0_2.length : Int) then (some ((rd_T35 l0_2 t111).f1.f0, (rd_T35 l0_2 t111).f1.f1, (rd_T35 l0_2 t111).f1.f2, (rd_T35 l0_2 t111).f1.f3)) else (none)) else (none)))
set_option maxHeartbeats 8000000 in
set_option maxRecDepth 100000 in
theorem field_Of.calls (a0_0 : Int) (a0_1 : Int) (A0_2 : Option Addr) (c0_2 : Nat) (l0_2 : List (S35)) (a0_3 : Int) (a0_4 : Bool) (a0_5 : Bool) (a1 : Int) (r1 : Bool) (r2 : Bool) (r3 : Int) (r4 : Bool) (w : World) (hr0_2 : Kd.C k35 w A0_2 l0_2.length l0_2) (hc0_2 : l0_2.length ≤ c0_2) (h : field_Of.f a0_0 a0_1 l0_2 a0_3 a0_4 a0_5 a1 = some (r1, r2, r3, r4)) :
  Calls Tryd.prog 69 #[.agg #[.int .i64 a0_0, .int .i64 a0_1, .slice A0_2 l0_2.length c0_2, .int .i64 a0_3, .bool a0_4, .bool a0_5], .int .i64 a1] w fun e w' => e = .returned (.agg #[.bool r1, .bool r2, .int .i64 r3, .bool r4]) ∧ Below w.heap.size w w' := by
 have hu24 := Tryd.underlying24
 have hu33 := Tryd.underlying33
 have HR0_2 := Aside0.mk hr0_2
 have HC0_2 := Aside0.mk hc0_2
 clear hr0_2 hc0_2
 have HB := Aside0.mk (Below.refl w.heap.size w)
 have H : ((field_Begin.f a0_0 a0_1 l0_2 a0_3 a0_4 a0_5 a1).bind fun t111 => (if t111 < 0 then (some (false, false, 0, false)) else (if 0 ≤ t111 then (if t111 < (l0_2.length : Int) then (some ((rd_T35 l0_2 t111).f1.f0, (rd_T35 l0_2 t111).f1.f1, (rd_T35 l0_2 t111).f1.f2, (rd_T35 l0_2 t111).f1.f3)) else (none)) else (none)))) = some (r1, r2, r3, r4) := h
 clear h
 replace H := Option.bind_eq_some_iff.mp H
 obtain ⟨t111, A30, H⟩ := H
 replace H : (if t111 < 0 then (some (false, false, 0, false)) else (if 0 ≤ t111 then (if t111 < (l0_2.length : Int) then (some ((rd_T35 l0_2 t111).f1.f0, (rd_T35 l0_2 t111).f1.f1, (rd_T35 l0_2 t111).f1.f2, (rd_T35 l0_2 t111).f1.f3)) else (none)) else (none))) = some (r1, r2, r3, r4) := H
 have A3 := Aside0.mk A30
 clear A30
 by_cases c4 : t111 < 0
 ·rw [if_pos c4] at H
  have c4b0 : decide (t111 < 0) = true := decide_eq_true c4
  clear c4
  simp only [Option.some.injEq, Prod.mk.injEq] at H
  obtain ⟨rfl, rfl, rfl, rfl⟩ := H
  go_enter Tryd.func69, Tryd.ntmps69
  go_wp2_with (first | ((with_reducible refine gate_dst (N := 2) rfl ?_); refine box_event ?hg (N := 2) ?hd (cs := #[.int .i64 a0_0, .int .i64 a0_1, .slice A0_2 l0_2.length c0_2, .int .i64 a0_3, .bool a0_4, .bool a0_5]) (t := 24) ?hr ?_; (case hd => rfl); (case hg => rfl); (case hr => first | (go_simp; done) | (go_simp; rfl)); intro gb109 hg w5 hbox hb; have n0_ := Aside0.mk (below_step bl_ hb); have n1_ := Aside0.mk (hbox); have n2_ := Aside0.mk ((le_new hg (below_size bl_) : w.heap.size ≤ gb109)); have n3_ := Aside0.mk ((le_new hg (below_size bl_) : w.heap.size ≤ gb109)); clear HB; have HB := n0_; have BK109 := n1_; have GW109 := n2_; have GE109 := n3_; clear n0_ n1_ n2_ n3_; clear hb hbox hg) | ((with_reducible refine gate_dst (N := 4) rfl ?_); refine box_event ?hg (N := 4) ?hd (cs := #[.bool false, .bool false, .int .i64 0, .bool false]) (t := 33) ?hr ?_; (case hd => rfl); (case hg => rfl); (case hr => first | (go_simp; done) | (go_simp; rfl)); intro gb110 hg w6 hbox hb; have n0_ := Aside0.mk (blk_below (g := gb109) (o := .cells #[.int .i64 a0_0, .int .i64 a0_1, .slice A0_2 l0_2.length c0_2, .int .i64 a0_3, .bool a0_4, .bool a0_5] 24 (0, 0)) (by (with_reducible repeat apply pK); exact BK109.out) hb); have n1_ := Aside0.mk (below_step bl_ hb); have n2_ := Aside0.mk (hbox); have n3_ := Aside0.mk ((le_new hg (below_size bl_) : w.heap.size ≤ gb110)); have n4_ := Aside0.mk ((le_new hg (below_size bl_) : w.heap.size ≤ gb110)); have n5_ := Aside0.mk ((by rw [hg]; exact Nat.ne_of_lt (blk_lt (g := gb109) (o := .cells #[.int .i64 a0_0, .int .i64 a0_1, .slice A0_2 l0_2.length c0_2, .int .i64 a0_3, .bool a0_4, .bool a0_5] 24 (0, 0)) (by (with_reducible repeat apply pK); exact BK109.out)) : gb109 ≠ gb110)); have n6_ := Aside0.mk ((by rw [hg]; exact Nat.ne_of_gt (blk_lt (g := gb109) (o := .cells #[.int .i64 a0_0, .int .i64 a0_1, .slice A0_2 l0_2.length c0_2, .int .i64 a0_3, .bool a0_4, .bool a0_5] 24 (0, 0)) (by (with_reducible repeat apply pK); exact BK109.out)) : gb110 ≠ gb109)); clear BK109; clear HB; have BK109 := n0_; have HB := n1_; have BK110 := n2_; have GW110 := n3_; have GE110 := n4_; have NB109_110 := n5_; have NB110_109 := n6_; clear n0_ n1_ n2_ n3_ n4_ n5_ n6_; clear hb hbox hg; have hnb7 := NB109_110.out; have hnc7 := NB110_109.out; obtain ⟨hcz8_0, hcz8_1, hcz8_2, hcz8_3, hcz8_4, hcz8_5, hfz8_0, hfz8_1, hfz8_2, hfz8_3, hfz8_4, hfz8_5⟩ := cells6 (show w6.heap[gb109]? = some (.cells #[.int .i64 a0_0, .int .i64 a0_1, .slice A0_2 l0_2.length c0_2, .int .i64 a0_3, .bool a0_4, .bool a0_5] _ (0, 0)) from BK109.out)) | ((with_reducible refine gate_callee (f := 62) rfl ?_); refine goesL_ (some 8) rfl rfl Tryd.func62 (by kernel_rfl) rfl #[.agg #[.int .i64 a0_0, .int .i64 a0_1, .slice A0_2 l0_2.length c0_2, .int .i64 a0_3, .bool a0_4, .bool a0_5], .int .i64 a1] rfl ag_ ?_; (with_reducible refine (field_Begin.calls a0_0 a0_1 _ _ l0_2 a0_3 a0_4 a0_5 a1 t111 _ ?side1 ?side2 A3.out).mono ?_); (case side1 => repeat (first | exact (Kd.C_below HR0_2.out HB.out) | (with_reducible apply pC))); (case side2 => exact HC0_2.out); rintro e w9 ⟨rfl, hb⟩; refine ⟨_, rfl, ?_⟩; have n0_ := Aside0.mk (blk_below (g := gb109) (o := .cells #[.int .i64 a0_0, .int .i64 a0_1, .slice A0_2 l0_2.length c0_2, .int .i64 a0_3, .bool a0_4, .bool a0_5] 24 (0, 0)) (by (with_reducible repeat apply pK); exact BK109.out) hb); have n1_ := Aside0.mk (blk_below (g := gb110) (o := .cells #[.bool false, .bool false, .int .i64 0, .bool false] 33 (0, 0)) (by (with_reducible repeat apply pK); exact BK110.out) hb); have n2_ := Aside0.mk (below_step bl_ hb); clear BK109; clear BK110; clear HB; have BK109 := n0_; have BK110 := n1_; have HB := n2_; clear n0_ n1_ n2_; (try clear hb); (try clear hb2); (try clear hk); (try clear hi); obtain ⟨hcz10_0, hcz10_1, hcz10_2, hcz10_3, hfz10_0, hfz10_1, hfz10_2, hfz10_3⟩ := cells4 (show w9.heap[gb110]? = some (.cells #[.bool false, .bool false, .int .i64 0, .bool false] _ (0, 0)) from BK110.out)))
  refine bodyPost_ret (results_cell_row rfl _ _ gb110 33 #[.bool false, .bool false, .int .i64 0, .bool false] (0, 0) _ rfl (by (with_reducible repeat apply pK); refine blk_put (cs := #[.bool false, .bool false, .int .i64 0, .bool false]) ?_ 3 _ rfl; (with_reducible repeat apply pK); refine blk_put (cs := #[.bool false, .bool false, .int .i64 0, .bool false]) ?_ 2 _ rfl; (with_reducible repeat apply pK); refine blk_put (cs := #[.bool false, .bool false, .int .i64 0, .bool false]) ?_ 1 _ rfl; (with_reducible repeat apply pK); refine blk_put (cs := #[.bool false, .bool false, .int .i64 0, .bool false]) ?_ 0 _ rfl; (with_reducible repeat apply pK); exact BK110.out) Tryd.underlying33 rfl (by kernel_rfl)) rfl ?_
  exact ⟨by first | rfl | (simp [errW_none, errW_some] <;> rfl) | (simp [*, errW_none, errW_some] <;> rfl), bl_⟩
 ·rw [if_neg c4] at H
  have c4b0 : decide (t111 < 0) = false := decide_eq_false c4
  clear c4
  by_cases c11 : 0 ≤ t111
  ·rw [if_pos c11] at H
   have c11b0 : decide (0 ≤ t111) = true := decide_eq_true c11
   clear c11
   by_cases c12 : t111 < (l0_2.length : Int)
   ·rw [if_pos c12] at H
    have c12b0 : decide (t111 < (l0_2.length : Int)) = true := decide_eq_true c12
    clear c12
    simp only [Option.some.injEq, Prod.mk.injEq] at H
    obtain ⟨rfl, rfl, rfl, rfl⟩ := H
    go_enter Tryd.func69, Tryd.ntmps69
    go_wp2_with (first | ((with_reducible refine gate_dst (N := 2) rfl ?_); refine box_event ?hg (N := 2) ?hd (cs := #[.int .i64 a0_0, .int .i64 a0_1, .slice A0_2 l0_2.length c0_2, .int .i64 a0_3, .bool a0_4, .bool a0_5]) (t := 24) ?hr ?_; (case hd => rfl); (case hg => rfl); (case hr => first | (go_simp; done) | (go_simp; rfl)); intro gb109 hg w13 hbox hb; have n0_ := Aside0.mk (below_step bl_ hb); have n1_ := Aside0.mk (hbox); have n2_ := Aside0.mk ((le_new hg (below_size bl_) : w.heap.size ≤ gb109)); have n3_ := Aside0.mk ((le_new hg (below_size bl_) : w.heap.size ≤ gb109)); clear HB; have HB := n0_; have BK109 := n1_; have GW109 := n2_; have GE109 := n3_; clear n0_ n1_ n2_ n3_; clear hb hbox hg) | ((with_reducible refine gate_dst (N := 4) rfl ?_); refine box_event ?hg (N := 4) ?hd (cs := #[.bool false, .bool false, .int .i64 0, .bool false]) (t := 33) ?hr ?_; (case hd => rfl); (case hg => rfl); (case hr => first | (go_simp; done) | (go_simp; rfl)); intro gb110 hg w14 hbox hb; have n0_ := Aside0.mk (blk_below (g := gb109) (o := .cells #[.int .i64 a0_0, .int .i64 a0_1, .slice A0_2 l0_2.length c0_2, .int .i64 a0_3, .bool a0_4, .bool a0_5] 24 (0, 0)) (by (with_reducible repeat apply pK); exact BK109.out) hb); have n1_ := Aside0.mk (below_step bl_ hb); have n2_ := Aside0.mk (hbox); have n3_ := Aside0.mk ((le_new hg (below_size bl_) : w.heap.size ≤ gb110)); have n4_ := Aside0.mk ((le_new hg (below_size bl_) : w.heap.size ≤ gb110)); have n5_ := Aside0.mk ((by rw [hg]; exact Nat.ne_of_lt (blk_lt (g := gb109) (o := .cells #[.int .i64 a0_0, .int .i64 a0_1, .slice A0_2 l0_2.length c0_2, .int .i64 a0_3, .bool a0_4, .bool a0_5] 24 (0, 0)) (by (with_reducible repeat apply pK); exact BK109.out)) : gb109 ≠ gb110)); have n6_ := Aside0.mk ((by rw [hg]; exact Nat.ne_of_gt (blk_lt (g := gb109) (o := .cells #[.int .i64 a0_0, .int .i64 a0_1, .slice A0_2 l0_2.length c0_2, .int .i64 a0_3, .bool a0_4, .bool a0_5] 24 (0, 0)) (by (with_reducible repeat apply pK); exact BK109.out)) : gb110 ≠ gb109)); clear BK109; clear HB; have BK109 := n0_; have HB := n1_; have BK110 := n2_; have GW110 := n3_; have GE110 := n4_; have NB109_110 := n5_; have NB110_109 := n6_; clear n0_ n1_ n2_ n3_ n4_ n5_ n6_; clear hb hbox hg; have hnb15 := NB109_110.out; have hnc15 := NB110_109.out; obtain ⟨hcz16_0, hcz16_1, hcz16_2, hcz16_3, hcz16_4, hcz16_5, hfz16_0, hfz16_1, hfz16_2, hfz16_3, hfz16_4, hfz16_5⟩ := cells6 (show w14.heap[gb109]? = some (.cells #[.int .i64 a0_0, .int .i64 a0_1, .slice A0_2 l0_2.length c0_2, .int .i64 a0_3, .bool a0_4, .bool a0_5] _ (0, 0)) from BK109.out)) | ((with_reducible refine gate_callee (f := 62) rfl ?_); refine goesL_ (some 8) rfl rfl Tryd.func62 (by kernel_rfl) rfl #[.agg #[.int .i64 a0_0, .int .i64 a0_1, .slice A0_2 l0_2.length c0_2, .int .i64 a0_3, .bool a0_4, .bool a0_5], .int .i64 a1] rfl ag_ ?_; (with_reducible refine (field_Begin.calls a0_0 a0_1 _ _ l0_2 a0_3 a0_4 a0_5 a1 t111 _ ?side1 ?side2 A3.out).mono ?_); (case side1 => repeat (first | exact (Kd.C_below HR0_2.out HB.out) | (with_reducible apply pC))); (case side2 => exact HC0_2.out); rintro e w17 ⟨rfl, hb⟩; refine ⟨_, rfl, ?_⟩; have n0_ := Aside0.mk (blk_below (g := gb109) (o := .cells #[.int .i64 a0_0, .int .i64 a0_1, .slice A0_2 l0_2.length c0_2, .int .i64 a0_3, .bool a0_4, .bool a0_5] 24 (0, 0)) (by (with_reducible repeat apply pK); exact BK109.out) hb); have n1_ := Aside0.mk (blk_below (g := gb110) (o := .cells #[.bool false, .bool false, .int .i64 0, .bool false] 33 (0, 0)) (by (with_reducible repeat apply pK); exact BK110.out) hb); have n2_ := Aside0.mk (below_step bl_ hb); clear BK109; clear BK110; clear HB; have BK109 := n0_; have BK110 := n1_; have HB := n2_; clear n0_ n1_ n2_; (try clear hb); (try clear hb2); (try clear hk); (try clear hi); obtain ⟨hcz18_0, hcz18_1, hcz18_2, hcz18_3, hcz18_4, hcz18_5, hfz18_0, hfz18_1, hfz18_2, hfz18_3, hfz18_4, hfz18_5⟩ := cells6 (show w17.heap[gb109]? = some (.cells #[.int .i64 a0_0, .int .i64 a0_1, .slice A0_2 l0_2.length c0_2, .int .i64 a0_3, .bool a0_4, .bool a0_5] _ (0, 0)) from BK109.out); have p112 : 0 ≤ (t111 : Int) := of_decide_eq_true (by first | (with_reducible assumption) | assumption); have q112 : t111 < (l0_2.length : Int) := of_decide_eq_true (by first | (with_reducible assumption) | assumption); obtain ⟨ad112, e112, hx112_0, hx112_1, hx112_2, hx112_3, hx112_4, hx112_5⟩ := at_T35 HR0_2.out t111 p112 q112; cases e112; replace hx112_0 := (HB.out.cell (World.block_lt_of_cell? w _ hx112_0)).trans hx112_0; replace hx112_1 := (HB.out.cell (World.block_lt_of_cell? w _ hx112_1)).trans hx112_1; replace hx112_2 := (HB.out.cell (World.block_lt_of_cell? w _ hx112_2)).trans hx112_2; replace hx112_3 := (HB.out.cell (World.block_lt_of_cell? w _ hx112_3)).trans hx112_3; replace hx112_4 := (HB.out.cell (World.block_lt_of_cell? w _ hx112_4)).trans hx112_4; replace hx112_5 := (HB.out.cell (World.block_lt_of_cell? w _ hx112_5)).trans hx112_5; replace p112 := eq_true p112; replace q112 := eq_true q112; obtain ⟨hcz19_0, hcz19_1, hcz19_2, hcz19_3, hfz19_0, hfz19_1, hfz19_2, hfz19_3⟩ := cells4 (show w17.heap[gb110]? = some (.cells #[.bool false, .bool false, .int .i64 0, .bool false] _ (0, 0)) from BK110.out)))
    refine bodyPost_ret (results_cell_row rfl _ _ gb110 33 #[.bool ((rd_T35 l0_2 t111).f1.f0), .bool ((rd_T35 l0_2 t111).f1.f1), .int .i64 ((rd_T35 l0_2 t111).f1.f2), .bool ((rd_T35 l0_2 t111).f1.f3)] (0, 0) _ rfl (by (with_reducible repeat apply pK); refine blk_put (cs := #[.bool ((rd_T35 l0_2 t111).f1.f0), .bool ((rd_T35 l0_2 t111).f1.f1), .int .i64 ((rd_T35 l0_2 t111).f1.f2), .bool false]) ?_ 3 _ rfl; (with_reducible repeat apply pK); refine blk_put (cs := #[.bool ((rd_T35 l0_2 t111).f1.f0), .bool ((rd_T35 l0_2 t111).f1.f1), .int .i64 0, .bool false]) ?_ 2 _ rfl; (with_reducible repeat apply pK); refine blk_put (cs := #[.bool ((rd_T35 l0_2 t111).f1.f0), .bool false, .int .i64 0, .bool false]) ?_ 1 _ rfl; (with_reducible repeat apply pK); refine blk_put (cs := #[.bool false, .bool false, .int .i64 0, .bool false]) ?_ 0 _ rfl; (with_reducible repeat apply pK); exact BK110.out) Tryd.underlying33 rfl (by kernel_rfl)) rfl ?_
    exact ⟨by first | rfl | (simp [errW_none, errW_some] <;> rfl) | (simp [*, errW_none, errW_some] <;> rfl), bl_⟩
   ·rw [if_neg c12] at H
    exact absurd H (by simp)
  ·rw [if_neg c11] at H
   exact absurd H (by simp)

/-! ### field_Open: function 44 -/
def field_Open.f (a0_0 : Int) (a0_1 : Int) (l0_2 : List (S35)) (a0_3 : Int) (a0_4 : Bool) (a0_5 : Bool) (a1 : Int) : Option (Bool) := if 0 ≤ a1 then (if a1 < (l0_2.length : Int) then (if ((rd_T35 l0_2 a1).f0 = true) then (some false) else ((field_Of.f a0_0 a0_1 l0_2 a0_3 a0_4 a0_5 a1).bind fun bt115 => (some (!bt115.1)))) else (none)) else (none)
set_option maxHeartbeats 8000000 in
set_option maxRecDepth 100000 in
theorem field_Open.calls (a0_0 : Int) (a0_1 : Int) (A0_2 : Option Addr) (c0_2 : Nat) (l0_2 : List (S35)) (a0_3 : Int) (a0_4 : Bool) (a0_5 : Bool) (a1 : Int) (r : Bool) (w : World) (hr0_2 : Kd.C k35 w A0_2 l0_2.length l0_2) (hc0_2 : l0_2.length ≤ c0_2) (h : field_Open.f a0_0 a0_1 l0_2 a0_3 a0_4 a0_5 a1 = some r) :
  Calls Tryd.prog 44 #[.agg #[.int .i64 a0_0, .int .i64 a0_1, .slice A0_2 l0_2.length c0_2, .int .i64 a0_3, .bool a0_4, .bool a0_5], .int .i64 a1] w fun e w' => e = .returned (.bool r) ∧ Below w.heap.size w w' := by
 have hu24 := Tryd.underlying24
 have hu33 := Tryd.underlying33
 have HR0_2 := Aside0.mk hr0_2
 have HC0_2 := Aside0.mk hc0_2
 clear hr0_2 hc0_2
 have HB := Aside0.mk (Below.refl w.heap.size w)
 have H : (if 0 ≤ a1 then (if a1 < (l0_2.length : Int) then (if ((rd_T35 l0_2 a1).f0 = true) then (some false) else ((field_Of.f a0_0 a0_1 l0_2 a0_3 a0_4 a0_5 a1).bind fun bt115 => (some (!bt115.1)))) else (none)) else (none)) = some r := h
 clear h
 by_cases c3 : 0 ≤ a1
 ·rw [if_pos c3] at H
  have c3b0 : decide (0 ≤ a1) = true := decide_eq_true c3
  clear c3
  by_cases c4 : a1 < (l0_2.length : Int)
  ·rw [if_pos c4] at H
   have c4b0 : decide (a1 < (l0_2.length : Int)) = true := decide_eq_true c4
   clear c4
   obtain ⟨bq5, hbq5⟩ : ∃ b_ : Bool, b_ = ((rd_T35 l0_2 a1).f0) := ⟨_, rfl⟩
   replace H : (if (bq5 = true) then (some false) else ((field_Of.f a0_0 a0_1 l0_2 a0_3 a0_4 a0_5 a1).bind fun bt115 => (some (!bt115.1)))) = some r := by rw [← hbq5] at H; exact H
   have Nbq5 := Aside0.mk hbq5
   clear hbq5
   by_cases c6 : (bq5 = true)
   ·subst c6
    have H1 : (some false) = some r := by rw [if_pos rfl] at H; exact H
    clear H
    have H := H1
    clear H1
    obtain rfl := Option.some.inj H
    go_enter Tryd.func44, Tryd.ntmps44
    go_wp2_with (first | ((with_reducible refine gate_dst (N := 2) rfl ?_); refine box_event ?hg (N := 2) ?hd (cs := #[.int .i64 a0_0, .int .i64 a0_1, .slice A0_2 l0_2.length c0_2, .int .i64 a0_3, .bool a0_4, .bool a0_5]) (t := 24) ?hr ?_; (case hd => rfl); (case hg => rfl); (case hr => first | (go_simp; done) | (go_simp; rfl)); intro gb113 hg w7 hbox hb; have n0_ := Aside0.mk (below_step bl_ hb); have n1_ := Aside0.mk (hbox); have n2_ := Aside0.mk ((le_new hg (below_size bl_) : w.heap.size ≤ gb113)); have n3_ := Aside0.mk ((le_new hg (below_size bl_) : w.heap.size ≤ gb113)); clear HB; have HB := n0_; have BK113 := n1_; have GW113 := n2_; have GE113 := n3_; clear n0_ n1_ n2_ n3_; clear hb hbox hg; obtain ⟨hcz8_0, hcz8_1, hcz8_2, hcz8_3, hcz8_4, hcz8_5, hfz8_0, hfz8_1, hfz8_2, hfz8_3, hfz8_4, hfz8_5⟩ := cells6 (show w7.heap[gb113]? = some (.cells #[.int .i64 a0_0, .int .i64 a0_1, .slice A0_2 l0_2.length c0_2, .int .i64 a0_3, .bool a0_4, .bool a0_5] _ (0, 0)) from BK113.out); have p114 : 0 ≤ (a1 : Int) := of_decide_eq_true (by first | (with_reducible assumption) | assumption); have q114 : a1 < (l0_2.length : Int) := of_decide_eq_true (by first | (with_reducible assumption) | assumption); obtain ⟨ad114, e114, hx114_0, hx114_1, hx114_2, hx114_3, hx114_4, hx114_5⟩ := at_T35 HR0_2.out a1 p114 q114; (try rw [← Nbq5.out] at hx114_0); (try rw [← Nbq5.out] at hx114_1); (try rw [← Nbq5.out] at hx114_2); (try rw [← Nbq5.out] at hx114_4); cases e114; replace hx114_0 := (HB.out.cell (World.block_lt_of_cell? w _ hx114_0)).trans hx114_0; replace hx114_1 := (HB.out.cell (World.block_lt_of_cell? w _ hx114_1)).trans hx114_1; replace hx114_2 := (HB.out.cell (World.block_lt_of_cell? w _ hx114_2)).trans hx114_2; replace hx114_3 := (HB.out.cell (World.block_lt_of_cell? w _ hx114_3)).trans hx114_3; replace hx114_4 := (HB.out.cell (World.block_lt_of_cell? w _ hx114_4)).trans hx114_4; replace hx114_5 := (HB.out.cell (World.block_lt_of_cell? w _ hx114_5)).trans hx114_5; replace p114 := eq_true p114; replace q114 := eq_true q114))
    go_ret
    exact ⟨by first | rfl | (simp [errW_none, errW_some] <;> rfl) | (simp [*, errW_none, errW_some] <;> rfl), bl_⟩
   ·replace c6 := Bool.eq_false_iff.mpr c6
    subst c6
    have H1 : ((field_Of.f a0_0 a0_1 l0_2 a0_3 a0_4 a0_5 a1).bind fun bt115 => (some (!bt115.1))) = some r := by rw [if_neg (show ¬ (false = true) by decide)] at H; exact H
    clear H
    have H := H1
    clear H1
    replace H := Option.bind_eq_some_iff.mp H
    obtain ⟨⟨t115, t116, t117, t118⟩, A90, H⟩ := H
    replace H : (some (!t115)) = some r := H
    have A9 := Aside0.mk A90
    clear A90
    obtain rfl := Option.some.inj H
    go_enter Tryd.func44, Tryd.ntmps44
    go_wp2_with (first | ((with_reducible refine gate_dst (N := 2) rfl ?_); refine box_event ?hg (N := 2) ?hd (cs := #[.int .i64 a0_0, .int .i64 a0_1, .slice A0_2 l0_2.length c0_2, .int .i64 a0_3, .bool a0_4, .bool a0_5]) (t := 24) ?hr ?_; (case hd => rfl); (case hg => rfl); (case hr => first | (go_simp; done) | (go_simp; rfl)); intro gb113 hg w10 hbox hb; have n0_ := Aside0.mk (below_step bl_ hb); have n1_ := Aside0.mk (hbox); have n2_ := Aside0.mk ((le_new hg (below_size bl_) : w.heap.size ≤ gb113)); have n3_ := Aside0.mk ((le_new hg (below_size bl_) : w.heap.size ≤ gb113)); clear HB; have HB := n0_; have BK113 := n1_; have GW113 := n2_; have GE113 := n3_; clear n0_ n1_ n2_ n3_; clear hb hbox hg; obtain ⟨hcz11_0, hcz11_1, hcz11_2, hcz11_3, hcz11_4, hcz11_5, hfz11_0, hfz11_1, hfz11_2, hfz11_3, hfz11_4, hfz11_5⟩ := cells6 (show w10.heap[gb113]? = some (.cells #[.int .i64 a0_0, .int .i64 a0_1, .slice A0_2 l0_2.length c0_2, .int .i64 a0_3, .bool a0_4, .bool a0_5] _ (0, 0)) from BK113.out); have p114 : 0 ≤ (a1 : Int) := of_decide_eq_true (by first | (with_reducible assumption) | assumption); have q114 : a1 < (l0_2.length : Int) := of_decide_eq_true (by first | (with_reducible assumption) | assumption); obtain ⟨ad114, e114, hx114_0, hx114_1, hx114_2, hx114_3, hx114_4, hx114_5⟩ := at_T35 HR0_2.out a1 p114 q114; (try rw [← Nbq5.out] at hx114_0); (try rw [← Nbq5.out] at hx114_1); (try rw [← Nbq5.out] at hx114_2); (try rw [← Nbq5.out] at hx114_4); cases e114; replace hx114_0 := (HB.out.cell (World.block_lt_of_cell? w _ hx114_0)).trans hx114_0; replace hx114_1 := (HB.out.cell (World.block_lt_of_cell? w _ hx114_1)).trans hx114_1; replace hx114_2 := (HB.out.cell (World.block_lt_of_cell? w _ hx114_2)).trans hx114_2; replace hx114_3 := (HB.out.cell (World.block_lt_of_cell? w _ hx114_3)).trans hx114_3; replace hx114_4 := (HB.out.cell (World.block_lt_of_cell? w _ hx114_4)).trans hx114_4; replace hx114_5 := (HB.out.cell (World.block_lt_of_cell? w _ hx114_5)).trans hx114_5; replace p114 := eq_true p114; replace q114 := eq_true q114) | (go_at_call 69; (with_reducible refine (field_Of.calls a0_0 a0_1 _ _ l0_2 a0_3 a0_4 a0_5 a1 t115 t116 t117 t118 _ ?side1 ?side2 A9.out).mono ?_); (case side1 => repeat (first | exact (Kd.C_below HR0_2.out HB.out) | (with_reducible apply pC))); (case side2 => exact HC0_2.out); rintro e w12 ⟨rfl, hb⟩; have n0_ := Aside0.mk (blk_below (g := gb113) (o := .cells #[.int .i64 a0_0, .int .i64 a0_1, .slice (some ad114) l0_2.length c0_2, .int .i64 a0_3, .bool a0_4, .bool a0_5] 24 (0, 0)) (by (with_reducible repeat apply pK); exact BK113.out) hb); have n1_ := Aside0.mk (below_step bl_ hb); clear BK113; clear HB; have BK113 := n0_; have HB := n1_; clear n0_ n1_; (try clear hb); (try clear hb2); (try clear hk); (try clear hi)))
    go_ret
    exact ⟨by first | rfl | (simp [errW_none, errW_some] <;> rfl) | (simp [*, errW_none, errW_some] <;> rfl), bl_⟩
  ·rw [if_neg c4] at H
   exact absurd H (by simp)
 ·rw [if_neg c3] at H
  exact absurd H (by simp)

end Go.Proofs.YtggecanpjkpkiaaDoor.P
