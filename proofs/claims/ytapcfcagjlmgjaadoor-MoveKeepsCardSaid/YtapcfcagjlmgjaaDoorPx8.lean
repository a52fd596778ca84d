/- The functions of the seat's laws as plain Lean functions, and that Go's code comes to just their answers. Written by pp.py (wip/tools), a program of this session, on the kit's print. -/
import Derived.Test.YtapcfcagjlmgjaaDoorPx0
import Derived.Test.YtapcfcagjlmgjaaDoorPx7
namespace Go.Proofs.YtapcfcagjlmgjaaDoor.P
open Go.RowKit Go.Proofs.YtapcfcagjlmgjaaDoorW.PrintWords Go.Proofs.YtapcfcagjlmgjaaDoorW.PrintLast Go.Proofs.YtapcfcagjlmgjaaDoorW.PrintMore
attribute [local go_sem] max2_int min2_int max_two min_two max_three min_three max_four min_four   -- for this text's walks alone
attribute [local go_sem] Instr.field asAgg
set_option linter.unusedVariables false
set_option linter.unusedSimpArgs false

/-! ### shutterref11_Next: function 16 -/
def shutterref11_Next.l0 : Nat → Int → Int → Int → Int → List (S44) → Int → Bool → Bool → Option (Int)
 | 0, _, _, _, _, _, _, _, _ => none
 | k + 1, x1, x5, x232000, x232001, x232002, x232003, x232004, x232005 => if x5 ≤ (x232002.length : Int) then ((shutterref11_mod.f k (wrap64 (x1 + x5)) (x232002.length : Int)).bind fun t232 => ((shutterref11_first.f k x232000 x232001 x232002 x232003 x232004 x232005 t232).bind fun t233 => (if t233 ≥ 0 then (some t233) else (shutterref11_Next.l0 k x1 (wrap64 (x5 + 1)) x232000 x232001 x232002 x232003 x232004 x232005)))) else (some (-1))
def shutterref11_Next.f (k : Nat) (a0_0 : Int) (a0_1 : Int) (l0_2 : List (S44)) (a0_3 : Int) (a0_4 : Bool) (a0_5 : Bool) (a1 : Int) : Option (Int) := shutterref11_Next.l0 k a1 1 a0_0 a0_1 l0_2 a0_3 a0_4 a0_5
theorem shutterref11_Next.mono_l : ∀ k, (∀ y0 y1 y2 y3 y4 y5 y6 y7, LeO (shutterref11_Next.l0 k y0 y1 y2 y3 y4 y5 y6 y7) (shutterref11_Next.l0 (k + 1) y0 y1 y2 y3 y4 y5 y6 y7))
 | 0 => fun _ _ _ _ _ _ _ _ r h => by simp [shutterref11_Next.l0] at h
 | k + 1 => by
  have ih0 := shutterref11_Next.mono_l k
  ·intro y0 y1 y2 y3 y4 y5 y6 y7
   unfold shutterref11_Next.l0
   repeat' first
   | (with_reducible exact ih0 _ _ _ _ _ _ _ _)
   | (with_reducible exact shutterref11_first.mono _ _ _ _ _ _ _ _)
   | (with_reducible exact shutterref11_mod.mono _ _ _)
   | (with_reducible exact LeO.refl _)
   | (with_reducible exact LeO.none _)
   | (with_reducible refine LeO.ite ?_ ?_)
   | (with_reducible refine LeO.bind ?_ (fun _ => ?_))
   | exact ih0 _ _ _ _ _ _ _ _
   | exact shutterref11_first.mono _ _ _ _ _ _ _ _
   | exact shutterref11_mod.mono _ _ _
   | exact LeO.none _
   | refine LeO.ite ?_ ?_
   | refine LeO.bind ?_ (fun _ => ?_)
theorem shutterref11_Next.mono : ∀ a0 a1 a2 a3 a4 a5 a6 k, LeO (shutterref11_Next.f k a0 a1 a2 a3 a4 a5 a6) (shutterref11_Next.f (k + 1) a0 a1 a2 a3 a4 a5 a6) := by
 intro a0 a1 a2 a3 a4 a5 a6 k
 have ih0 := shutterref11_Next.mono_l k
 unfold shutterref11_Next.f
 repeat' first
   | (with_reducible exact ih0 _ _ _ _ _ _ _ _)
   | (with_reducible exact shutterref11_first.mono _ _ _ _ _ _ _ _)
   | (with_reducible exact shutterref11_mod.mono _ _ _)
   | (with_reducible exact LeO.refl _)
   | (with_reducible exact LeO.none _)
   | (with_reducible refine LeO.ite ?_ ?_)
   | (with_reducible refine LeO.bind ?_ (fun _ => ?_))
   | exact ih0 _ _ _ _ _ _ _ _
   | exact shutterref11_first.mono _ _ _ _ _ _ _ _
   | exact shutterref11_mod.mono _ _ _
   | exact LeO.none _
   | refine LeO.ite ?_ ?_
   | refine LeO.bind ?_ (fun _ => ?_)
def shutterref11_Next.T4 : Bool × List (List Nat × List Nat) := (true, [([], []), ([], []), ([], []), ([1, 2], [1, 2]), ([], []), ([4], [4]), ([5], [5]), ([3, 6], [3, 6]), ([0, 7, 7], [0, 7]), ([8, 8, 0, 1, 2, 3, 4, 5, 6, 7, 8], [8])])
def shutterref11_Next.B4 : List Nat := [0, 0, 0, 6, 0, 16, 48, 126, 255, 511]
theorem shutterref11_Next.tab4 : rtab .any (opsOf Tryd.f16 4) = shutterref11_Next.T4 := by kernel_rfl
theorem shutterref11_Next.bits4 : waitsOk shutterref11_Next.T4.2 shutterref11_Next.B4 = true := by kernel_rfl
set_option maxHeartbeats 8000000 in
set_option maxRecDepth 100000 in
theorem shutterref11_Next.calls (k : Nat) (a0_0 : Int) (a0_1 : Int) (A0_2 : Option Addr) (c0_2 : Nat) (l0_2 : List (S44)) (a0_3 : Int) (a0_4 : Bool) (a0_5 : Bool) (a1 : Int) (r : Int) (w : World) (hr0_2 : Kd.C k44 w A0_2 l0_2.length l0_2) (hc0_2 : l0_2.length ≤ c0_2) (h : shutterref11_Next.f k a0_0 a0_1 l0_2 a0_3 a0_4 a0_5 a1 = some r) :
  Calls Tryd.prog 16 #[.agg #[.int .i64 a0_0, .int .i64 a0_1, .slice A0_2 l0_2.length c0_2, .int .i64 a0_3, .bool a0_4, .bool a0_5], .int .i64 a1] w fun e w' => e = .returned (.int .i64 r) ∧ Below w.heap.size w w' := by
 have hu24 := Tryd.underlying24
 have HR0_2 := Aside0.mk hr0_2
 have HC0_2 := Aside0.mk hc0_2
 clear hr0_2 hc0_2
 have HB := Aside0.mk (Below.refl w.heap.size w)
 have H : (shutterref11_Next.l0 k a1 1 a0_0 a0_1 l0_2 a0_3 a0_4 a0_5) = some r := h
 clear h
 have H' := Aside0.mk H
 clear H
 go_enter Tryd.func16, Tryd.ntmps16
 go_wp2_with (first | ((with_reducible refine gate_dst (N := 2) rfl ?_); refine box_event ?hg (N := 2) ?hd (cs := #[.int .i64 a0_0, .int .i64 a0_1, .slice A0_2 l0_2.length c0_2, .int .i64 a0_3, .bool a0_4, .bool a0_5]) (t := 24) ?hr ?_; (case hd => rfl); (case hg => rfl); (case hr => first | (go_simp; done) | (go_simp; rfl)); intro gb231 hg w3 hbox hb; have n0_ := Aside0.mk (below_step bl_ hb); have n1_ := Aside0.mk (hbox); have n2_ := Aside0.mk ((le_new hg (below_size bl_) : w.heap.size ≤ gb231)); have n3_ := Aside0.mk ((le_new hg (below_size bl_) : w.heap.size ≤ gb231)); clear HB; have HB := n0_; have BK231 := n1_; have GW231 := n2_; have GE231 := n3_; clear n0_ n1_ n2_ n3_; clear hb hbox hg))
 go_loopg [5] k (fun kq v5 w' => ∃ (x5_1 : Int), v5 = .int .i64 x5_1 ∧ Aside0 (shutterref11_Next.l0 kq a1 x5_1 a0_0 a0_1 l0_2 a0_3 a0_4 a0_5 = some r) ∧ Aside0 (kq ≤ k) ∧ Aside0 (w'.heap[gb231]? = some (.cells #[.int .i64 a0_0, .int .i64 a0_1, (.slice A0_2 l0_2.length c0_2), .int .i64 a0_3, .bool a0_4, .bool a0_5] 24 (0, 0))) ∧ Aside0 (Below w.heap.size w w'))
 case atStart => exact ⟨(1), (by first | rfl | (simp; done) | (simp [*]; done)), H', ⟨Nat.le_refl _⟩, ⟨by (with_reducible repeat apply pK); exact BK231.out⟩, ⟨bl_⟩⟩
 case round =>
  clear H'
  try clear c1
  try clear p2
  obtain ⟨x5_1, rfl, HA, HK1, BK231, HB⟩ := hrel
  cases gk with
  | zero => exact absurd HA.out (by simp [shutterref11_Next.l0])
  | succ k1 =>
   have H := HA.out
   clear HA
   simp only [shutterref11_Next.l0] at H
   by_cases c4 : x5_1 ≤ (l0_2.length : Int)
   ·rw [if_pos c4] at H
    have c4b0 : decide (x5_1 ≤ (l0_2.length : Int)) = true := decide_eq_true c4
    clear c4
    replace H := Option.bind_eq_some_iff.mp H
    obtain ⟨t232, A50, H⟩ := H
    replace H : ((shutterref11_first.f k1 a0_0 a0_1 l0_2 a0_3 a0_4 a0_5 t232).bind fun t233 => (if t233 ≥ 0 then (some t233) else (shutterref11_Next.l0 k1 a1 (wrap64 (x5_1 + 1)) a0_0 a0_1 l0_2 a0_3 a0_4 a0_5))) = some r := H
    have A5 := Aside0.mk A50
    clear A50
    replace H := Option.bind_eq_some_iff.mp H
    obtain ⟨t233, A60, H⟩ := H
    replace H : (if t233 ≥ 0 then (some t233) else (shutterref11_Next.l0 k1 a1 (wrap64 (x5_1 + 1)) a0_0 a0_1 l0_2 a0_3 a0_4 a0_5)) = some r := H
    have A6 := Aside0.mk A60
    clear A60
    by_cases c7 : t233 ≥ 0
    ·rw [if_pos c7] at H
     have c7b0 : decide (0 ≤ t233) = true := decide_eq_true c7
     clear c7
     obtain rfl := Option.some.inj H
     obtain ⟨hcz8_0, hcz8_1, hcz8_2, hcz8_3, hcz8_4, hcz8_5, hfz8_0, hfz8_1, hfz8_2, hfz8_3, hfz8_4, hfz8_5⟩ := cells6 (show wr.heap[gb231]? = some (.cells #[.int .i64 a0_0, .int .i64 a0_1, .slice A0_2 l0_2.length c0_2, .int .i64 a0_3, .bool a0_4, .bool a0_5] _ (0, 0)) from BK231.out)
     try go_wp2
     have n0_ := Aside0.mk (blk_drew BK231.out)
     have n1_ := Aside0.mk (below_drew1 HB.out)
     clear BK231
     clear HB
     have BK231 := n0_
     have HB := n1_
     clear n0_ n1_
     refine start_ (n := 10) (S := fun w' => w'.cell? ⟨gb231, 0, none⟩ = some (.int .i64 a0_0) ∧ w'.cell? ⟨gb231, 1, none⟩ = some (.int .i64 a0_1) ∧ w'.cell? ⟨gb231, 2, none⟩ = some (.slice A0_2 l0_2.length c0_2) ∧ w'.cell? ⟨gb231, 3, none⟩ = some (.int .i64 a0_3) ∧ w'.cell? ⟨gb231, 4, none⟩ = some (.bool a0_4) ∧ w'.cell? ⟨gb231, 5, none⟩ = some (.bool a0_5)) (ds := []) #[false, false, false, false, false, false, false, false, false, false] (by kernel_rfl) rfl rfl ⟨(blk_cell BK231.out 0).trans rfl, (blk_cell BK231.out 1).trans rfl, (blk_cell BK231.out 2).trans rfl, (blk_cell BK231.out 3).trans rfl, (blk_cell BK231.out 4).trans rfl, (blk_cell BK231.out 5).trans rfl⟩ (fun hHeld => ?_); refine with_tabW shutterref11_Next.tab4 shutterref11_Next.bits4 (fun HT_ HW_ => ?_)
     generalize wr.drew = w9 at BK231 HB hHeld ⊢
     refine pure_ (i := 1) (N := some 15) (v := ?_) (a' := ?_) #[false, true, false, false, false, false, false, false, false, false] rfl rfl (any_of HT_.out (by kernel_rfl)) (fun _ _ _ h => h) (Or.inl ⟨by rfl, ?_⟩) ?_ ?_
     rotate_left
     ·intro w'
      go_simp
      with_reducible rfl
     rotate_left
     ·simp only [Act.put, List.setIfInBounds_toArray, List.set_cons_zero, List.set_cons_succ, i64_w, i32_w]
      rfl
     refine pure_ (i := 2) (N := some 16) (v := ?_) (a' := ?_) #[false, true, true, false, false, false, false, false, false, false] rfl rfl (any_of HT_.out (by kernel_rfl)) (fun _ _ _ h => h) (Or.inl ⟨by rfl, ?_⟩) ?_ ?_
     rotate_left
     ·intro w'
      go_simp
      with_reducible rfl
     rotate_left
     ·simp only [Act.put, List.setIfInBounds_toArray, List.set_cons_zero, List.set_cons_succ, i64_w, i32_w]
      rfl
     refine pure_ (i := 3) (N := some 17) (v := ?_) (a' := ?_) #[false, true, true, true, false, false, false, false, false, false] rfl rfl (any_of HT_.out (by kernel_rfl)) (fun _ _ _ h => h) (Or.inl ⟨by rfl, ?_⟩) ?_ ?_
     rotate_left
     ·intro w'
      go_simp
      with_reducible rfl
     rotate_left
     ·simp only [Act.put, List.setIfInBounds_toArray, List.set_cons_zero, List.set_cons_succ, i64_w, i32_w]
      rfl
     refine pure_ (i := 4) (N := some 18) (v := ?_) (a' := ?_) #[false, true, true, true, true, false, false, false, false, false] rfl rfl (any_of HT_.out (by kernel_rfl)) (fun _ _ _ h => h) (Or.inl ⟨by rfl, ?_⟩) ?_ ?_
     rotate_left
     ·intro w'
      go_simp
      with_reducible rfl
     rotate_left
     ·simp only [Act.put, List.setIfInBounds_toArray, List.set_cons_zero, List.set_cons_succ, i64_w, i32_w]
      rfl
     refine take_ (i := 0) (N := some 14) (v := ?_) (a' := ?_) #[true, true, true, true, true, false, false, false, false, false] rfl rfl (take_ofW HT_.out HW_.out (by kernel_rfl)) (fun _ _ _ h => h) (Or.inl ⟨by rfl, ?_⟩) hHeld ?_ ?_
     rotate_left
     ·rintro w' ⟨s0, s1, s2, s3, s4, s5⟩
      go_simp
      with_reducible rfl
     rotate_left
     ·simp only [Act.put, List.setIfInBounds_toArray, List.set_cons_zero, List.set_cons_succ, i64_w, i32_w]
      rfl
     refine take_ (i := 5) (N := some 19) (v := ?_) (a' := ?_) #[true, true, true, true, true, true, false, false, false, false] rfl rfl (take_ofW HT_.out HW_.out (by kernel_rfl)) (fun _ _ _ h => h) (Or.inl ⟨by rfl, ?_⟩) hHeld ?_ ?_
     rotate_left
     ·rintro w' ⟨s0, s1, s2, s3, s4, s5⟩
      go_simp
      with_reducible rfl
     rotate_left
     ·simp only [Act.put, List.setIfInBounds_toArray, List.set_cons_zero, List.set_cons_succ, i64_w, i32_w]
      rfl
     refine pure_ (i := 6) (N := some 20) (v := ?_) (a' := ?_) #[true, true, true, true, true, true, true, false, false, false] rfl rfl (any_of HT_.out (by kernel_rfl)) (fun _ _ _ h => h) (Or.inl ⟨by rfl, ?_⟩) ?_ ?_
     rotate_left
     ·intro w'
      go_simp
      with_reducible rfl
     rotate_left
     ·simp only [Act.put, List.setIfInBounds_toArray, List.set_cons_zero, List.set_cons_succ, i64_w, i32_w]
      rfl
     refine one_ (i := 7) (N := some 21) #[true, true, true, true, true, true, true, true, false, false] rfl rfl (one_of HT_.out (by kernel_rfl)) (by decide) (fun K hK => ?_)
     refine goes_ Tryd.func26 (by kernel_rfl) rfl #[.int .i64 (wrap64 (a1 + x5_1)), .int .i64 (l0_2.length : Int)] (by rfl) rfl rfl ag_ ?_
     with_reducible refine (shutterref11_mod.calls k1 (wrap64 (a1 + x5_1)) (l0_2.length : Int) t232 _ A5.out).mono ?_
     rintro e w' ⟨rfl, ⟨nd, rfl⟩⟩
     refine ⟨_, rfl, ?_⟩
     refine hK.out _ _ ⟨(blk_cell BK231.out 0).trans rfl, (blk_cell BK231.out 1).trans rfl, (blk_cell BK231.out 2).trans rfl, (blk_cell BK231.out 3).trans rfl, (blk_cell BK231.out 4).trans rfl, (blk_cell BK231.out 5).trans rfl⟩ (fun hHeld => ?_)
     clear hK K
     refine norm_ (a' := ?_) ?_ ?_
     rotate_left
     ·show Act.put _ (some 21) _ = _
      simp only [Act.put, List.setIfInBounds_toArray, List.set_cons_zero, List.set_cons_succ, i64_w, i32_w]
      rfl
     refine one_ (i := 8) (N := some 22) #[true, true, true, true, true, true, true, true, true, false] rfl rfl (one_of HT_.out (by kernel_rfl)) (by decide) (fun K hK => ?_)
     refine goes_ Tryd.func25 (by kernel_rfl) rfl #[.agg #[.int .i64 a0_0, .int .i64 a0_1, .slice A0_2 l0_2.length c0_2, .int .i64 a0_3, .bool a0_4, .bool a0_5], .int .i64 t232] (by rfl) rfl rfl ag_ ?_
     with_reducible refine (shutterref11_first.calls k1 a0_0 a0_1 _ _ l0_2 a0_3 a0_4 a0_5 t232 t233 _ ?side1 ?side2 A6.out).mono ?_
     (case side1 => repeat (first | exact (Kd.C_below HR0_2.out bl_) | (with_reducible apply pC)))
     (case side2 => exact HC0_2.out)
     rintro e w10 ⟨rfl, hb⟩
     refine ⟨_, rfl, ?_⟩
     have n0_ := Aside0.mk (blk_below (g := gb231) (o := .cells #[.int .i64 a0_0, .int .i64 a0_1, .slice A0_2 l0_2.length c0_2, .int .i64 a0_3, .bool a0_4, .bool a0_5] 24 (0, 0)) (by (with_reducible repeat apply pK); exact BK231.out) hb)
     have n1_ := Aside0.mk (below_step bl_ hb)
     clear BK231
     clear HB
     have BK231 := n0_
     have HB := n1_
     clear n0_ n1_
     (try clear hb)
     (try clear hb2)
     (try clear hk)
     (try clear hi)
     refine hK.out _ _ ⟨(blk_cell BK231.out 0).trans rfl, (blk_cell BK231.out 1).trans rfl, (blk_cell BK231.out 2).trans rfl, (blk_cell BK231.out 3).trans rfl, (blk_cell BK231.out 4).trans rfl, (blk_cell BK231.out 5).trans rfl⟩ (fun hHeld => ?_)
     clear hK K
     refine norm_ (a' := ?_) ?_ ?_
     rotate_left
     ·show Act.put _ (some 22) _ = _
      simp only [Act.put, List.setIfInBounds_toArray, List.set_cons_zero, List.set_cons_succ, i64_w, i32_w]
      rfl
     refine pure_ (i := 9) (N := some 6) (v := ?_) (a' := ?_) #[true, true, true, true, true, true, true, true, true, true] rfl rfl (any_of HT_.out (by kernel_rfl)) (fun _ _ _ h => h) (Or.inl ⟨by rfl, ?_⟩) ?_ ?_
     rotate_left
     ·intro w'
      go_simp
      with_reducible rfl
     rotate_left
     ·simp only [Act.put, List.setIfInBounds_toArray, List.set_cons_zero, List.set_cons_succ, i64_w, i32_w]
      rfl
     refine done_ (done_of HT_.out (by kernel_rfl)) ?_
     try go_wp2
     go_ret
     exact ⟨by first | rfl | (simp [errW_none, errW_some] <;> rfl) | (simp [*, errW_none, errW_some] <;> rfl), bl_⟩
    ·rw [if_neg c7] at H
     have c7b0 : decide (0 ≤ t233) = false := decide_eq_false c7
     clear c7
     have H' := Aside0.mk H
     clear H
     obtain ⟨hcz11_0, hcz11_1, hcz11_2, hcz11_3, hcz11_4, hcz11_5, hfz11_0, hfz11_1, hfz11_2, hfz11_3, hfz11_4, hfz11_5⟩ := cells6 (show wr.heap[gb231]? = some (.cells #[.int .i64 a0_0, .int .i64 a0_1, .slice A0_2 l0_2.length c0_2, .int .i64 a0_3, .bool a0_4, .bool a0_5] _ (0, 0)) from BK231.out)
     try go_wp2
     have n0_ := Aside0.mk (blk_drew BK231.out)
     have n1_ := Aside0.mk (below_drew1 HB.out)
     clear BK231
     clear HB
     have BK231 := n0_
     have HB := n1_
     clear n0_ n1_
     refine start_ (n := 10) (S := fun w' => w'.cell? ⟨gb231, 0, none⟩ = some (.int .i64 a0_0) ∧ w'.cell? ⟨gb231, 1, none⟩ = some (.int .i64 a0_1) ∧ w'.cell? ⟨gb231, 2, none⟩ = some (.slice A0_2 l0_2.length c0_2) ∧ w'.cell? ⟨gb231, 3, none⟩ = some (.int .i64 a0_3) ∧ w'.cell? ⟨gb231, 4, none⟩ = some (.bool a0_4) ∧ w'.cell? ⟨gb231, 5, none⟩ = some (.bool a0_5)) (ds := []) #[false, false, false, false, false, false, false, false, false, false] (by kernel_rfl) rfl rfl ⟨(blk_cell BK231.out 0).trans rfl, (blk_cell BK231.out 1).trans rfl, (blk_cell BK231.out 2).trans rfl, (blk_cell BK231.out 3).trans rfl, (blk_cell BK231.out 4).trans rfl, (blk_cell BK231.out 5).trans rfl⟩ (fun hHeld => ?_); refine with_tabW shutterref11_Next.tab4 shutterref11_Next.bits4 (fun HT_ HW_ => ?_)
     generalize wr.drew = w12 at BK231 HB hHeld ⊢
     refine pure_ (i := 1) (N := some 15) (v := ?_) (a' := ?_) #[false, true, false, false, false, false, false, false, false, false] rfl rfl (any_of HT_.out (by kernel_rfl)) (fun _ _ _ h => h) (Or.inl ⟨by rfl, ?_⟩) ?_ ?_
     rotate_left
     ·intro w'
      go_simp
      with_reducible rfl
     rotate_left
     ·simp only [Act.put, List.setIfInBounds_toArray, List.set_cons_zero, List.set_cons_succ, i64_w, i32_w]
      rfl
     refine pure_ (i := 2) (N := some 16) (v := ?_) (a' := ?_) #[false, true, true, false, false, false, false, false, false, false] rfl rfl (any_of HT_.out (by kernel_rfl)) (fun _ _ _ h => h) (Or.inl ⟨by rfl, ?_⟩) ?_ ?_
     rotate_left
     ·intro w'
      go_simp
      with_reducible rfl
     rotate_left
     ·simp only [Act.put, List.setIfInBounds_toArray, List.set_cons_zero, List.set_cons_succ, i64_w, i32_w]
      rfl
     refine pure_ (i := 3) (N := some 17) (v := ?_) (a' := ?_) #[false, true, true, true, false, false, false, false, false, false] rfl rfl (any_of HT_.out (by kernel_rfl)) (fun _ _ _ h => h) (Or.inl ⟨by rfl, ?_⟩) ?_ ?_
     rotate_left
     ·intro w'
      go_simp
      with_reducible rfl
     rotate_left
     ·simp only [Act.put, List.setIfInBounds_toArray, List.set_cons_zero, List.set_cons_succ, i64_w, i32_w]
      rfl
     refine pure_ (i := 4) (N := some 18) (v := ?_) (a' := ?_) #[false, true, true, true, true, false, false, false, false, false] rfl rfl (any_of HT_.out (by kernel_rfl)) (fun _ _ _ h => h) (Or.inl ⟨by rfl, ?_⟩) ?_ ?_
     rotate_left
     ·intro w'
      go_simp
      with_reducible rfl
     rotate_left
     ·simp only [Act.put, List.setIfInBounds_toArray, List.set_cons_zero, List.set_cons_succ, i64_w, i32_w]
      rfl
     refine take_ (i := 0) (N := some 14) (v := ?_) (a' := ?_) #[true, true, true, true, true, false, false, false, false, false] rfl rfl (take_ofW HT_.out HW_.out (by kernel_rfl)) (fun _ _ _ h => h) (Or.inl ⟨by rfl, ?_⟩) hHeld ?_ ?_
     rotate_left
     ·rintro w' ⟨s0, s1, s2, s3, s4, s5⟩
      go_simp
      with_reducible rfl
     rotate_left
     ·simp only [Act.put, List.setIfInBounds_toArray, List.set_cons_zero, List.set_cons_succ, i64_w, i32_w]
      rfl
     refine take_ (i := 5) (N := some 19) (v := ?_) (a' := ?_) #[true, true, true, true, true, true, false, false, false, false] rfl rfl (take_ofW HT_.out HW_.out (by kernel_rfl)) (fun _ _ _ h => h) (Or.inl ⟨by rfl, ?_⟩) hHeld ?_ ?_
     rotate_left
     ·rintro w' ⟨s0, s1, s2, s3, s4, s5⟩
      go_simp
      with_reducible rfl
     rotate_left
     ·simp only [Act.put, List.setIfInBounds_toArray, List.set_cons_zero, List.set_cons_succ, i64_w, i32_w]
      rfl
     refine pure_ (i := 6) (N := some 20) (v := ?_) (a' := ?_) #[true, true, true, true, true, true, true, false, false, false] rfl rfl (any_of HT_.out (by kernel_rfl)) (fun _ _ _ h => h) (Or.inl ⟨by rfl, ?_⟩) ?_ ?_
     rotate_left
     ·intro w'
      go_simp
      with_reducible rfl
     rotate_left
     ·simp only [Act.put, List.setIfInBounds_toArray, List.set_cons_zero, List.set_cons_succ, i64_w, i32_w]
      rfl
     refine one_ (i := 7) (N := some 21) #[true, true, true, true, true, true, true, true, false, false] rfl rfl (one_of HT_.out (by kernel_rfl)) (by decide) (fun K hK => ?_)
     refine goes_ Tryd.func26 (by kernel_rfl) rfl #[.int .i64 (wrap64 (a1 + x5_1)), .int .i64 (l0_2.length : Int)] (by rfl) rfl rfl ag_ ?_
     with_reducible refine (shutterref11_mod.calls k1 (wrap64 (a1 + x5_1)) (l0_2.length : Int) t232 _ A5.out).mono ?_
     rintro e w' ⟨rfl, ⟨nd, rfl⟩⟩
     refine ⟨_, rfl, ?_⟩
     refine hK.out _ _ ⟨(blk_cell BK231.out 0).trans rfl, (blk_cell BK231.out 1).trans rfl, (blk_cell BK231.out 2).trans rfl, (blk_cell BK231.out 3).trans rfl, (blk_cell BK231.out 4).trans rfl, (blk_cell BK231.out 5).trans rfl⟩ (fun hHeld => ?_)
     clear hK K
     refine norm_ (a' := ?_) ?_ ?_
     rotate_left
     ·show Act.put _ (some 21) _ = _
      simp only [Act.put, List.setIfInBounds_toArray, List.set_cons_zero, List.set_cons_succ, i64_w, i32_w]
      rfl
     refine one_ (i := 8) (N := some 22) #[true, true, true, true, true, true, true, true, true, false] rfl rfl (one_of HT_.out (by kernel_rfl)) (by decide) (fun K hK => ?_)
     refine goes_ Tryd.func25 (by kernel_rfl) rfl #[.agg #[.int .i64 a0_0, .int .i64 a0_1, .slice A0_2 l0_2.length c0_2, .int .i64 a0_3, .bool a0_4, .bool a0_5], .int .i64 t232] (by rfl) rfl rfl ag_ ?_
     with_reducible refine (shutterref11_first.calls k1 a0_0 a0_1 _ _ l0_2 a0_3 a0_4 a0_5 t232 t233 _ ?side1 ?side2 A6.out).mono ?_
     (case side1 => repeat (first | exact (Kd.C_below HR0_2.out bl_) | (with_reducible apply pC)))
     (case side2 => exact HC0_2.out)
     rintro e w13 ⟨rfl, hb⟩
     refine ⟨_, rfl, ?_⟩
     have n0_ := Aside0.mk (blk_below (g := gb231) (o := .cells #[.int .i64 a0_0, .int .i64 a0_1, .slice A0_2 l0_2.length c0_2, .int .i64 a0_3, .bool a0_4, .bool a0_5] 24 (0, 0)) (by (with_reducible repeat apply pK); exact BK231.out) hb)
     have n1_ := Aside0.mk (below_step bl_ hb)
     clear BK231
     clear HB
     have BK231 := n0_
     have HB := n1_
     clear n0_ n1_
     (try clear hb)
     (try clear hb2)
     (try clear hk)
     (try clear hi)
     refine hK.out _ _ ⟨(blk_cell BK231.out 0).trans rfl, (blk_cell BK231.out 1).trans rfl, (blk_cell BK231.out 2).trans rfl, (blk_cell BK231.out 3).trans rfl, (blk_cell BK231.out 4).trans rfl, (blk_cell BK231.out 5).trans rfl⟩ (fun hHeld => ?_)
     clear hK K
     refine norm_ (a' := ?_) ?_ ?_
     rotate_left
     ·show Act.put _ (some 22) _ = _
      simp only [Act.put, List.setIfInBounds_toArray, List.set_cons_zero, List.set_cons_succ, i64_w, i32_w]
      rfl
     refine pure_ (i := 9) (N := some 6) (v := ?_) (a' := ?_) #[true, true, true, true, true, true, true, true, true, true] rfl rfl (any_of HT_.out (by kernel_rfl)) (fun _ _ _ h => h) (Or.inl ⟨by rfl, ?_⟩) ?_ ?_
     rotate_left
     ·intro w'
      go_simp
      with_reducible rfl
     rotate_left
     ·simp only [Act.put, List.setIfInBounds_toArray, List.set_cons_zero, List.set_cons_succ, i64_w, i32_w]
      rfl
     refine done_ (done_of HT_.out (by kernel_rfl)) ?_
     try go_wp2
     go_roundg k1
     case measure => have := HK1.out; omega
     case rel => exact ⟨(wrap64 (x5_1 + 1)), (by first | rfl | (simp; done) | (simp [*]; done)), H', ⟨by have := HK1.out; omega⟩, ⟨by (with_reducible repeat apply pK); exact BK231.out⟩, ⟨bl_⟩⟩
   ·rw [if_neg c4] at H
    have c4b0 : decide (x5_1 ≤ (l0_2.length : Int)) = false := decide_eq_false c4
    clear c4
    obtain rfl := Option.some.inj H
    obtain ⟨hcz14_0, hcz14_1, hcz14_2, hcz14_3, hcz14_4, hcz14_5, hfz14_0, hfz14_1, hfz14_2, hfz14_3, hfz14_4, hfz14_5⟩ := cells6 (show wr.heap[gb231]? = some (.cells #[.int .i64 a0_0, .int .i64 a0_1, .slice A0_2 l0_2.length c0_2, .int .i64 a0_3, .bool a0_4, .bool a0_5] _ (0, 0)) from BK231.out)
    go_wp2
    go_ret
    exact ⟨by first | rfl | (simp [errW_none, errW_some] <;> rfl) | (simp [*, errW_none, errW_some] <;> rfl), bl_⟩

/-! ### shutterref11_Begin: function 40 -/
def shutterref11_Begin.l0 : Nat → Int → Int → Int → Int → List (S44) → Int → Bool → Bool → Option (Int)
 | 0, _, _, _, _, _, _, _, _ => none
 | k + 1, x1, x5, x235000, x235001, x235002, x235003, x235004, x235005 => if x5 < (x235002.length : Int) then ((shutterref11_mod.f k (wrap64 (x1 - x5)) (x235002.length : Int)).bind fun t235 => (if 0 ≤ t235 then (if t235 < (x235002.length : Int) then (if (rd_T44 x235002 t235).f0 = true then (some t235) else (shutterref11_Begin.l0 k x1 (wrap64 (x5 + 1)) x235000 x235001 x235002 x235003 x235004 x235005)) else (none)) else (none))) else (some (-1))
def shutterref11_Begin.f (k : Nat) (a0_0 : Int) (a0_1 : Int) (l0_2 : List (S44)) (a0_3 : Int) (a0_4 : Bool) (a0_5 : Bool) (a1 : Int) : Option (Int) := shutterref11_Begin.l0 k a1 0 a0_0 a0_1 l0_2 a0_3 a0_4 a0_5
theorem shutterref11_Begin.mono_l : ∀ k, (∀ y0 y1 y2 y3 y4 y5 y6 y7, LeO (shutterref11_Begin.l0 k y0 y1 y2 y3 y4 y5 y6 y7) (shutterref11_Begin.l0 (k + 1) y0 y1 y2 y3 y4 y5 y6 y7))
 | 0 => fun _ _ _ _ _ _ _ _ r h => by simp [shutterref11_Begin.l0] at h
 | k + 1 => by
  have ih0 := shutterref11_Begin.mono_l k
  ·intro y0 y1 y2 y3 y4 y5 y6 y7
   unfold shutterref11_Begin.l0
   repeat' first
   | (with_reducible exact ih0 _ _ _ _ _ _ _ _)
   | (with_reducible exact shutterref11_mod.mono _ _ _)
   | (with_reducible exact LeO.refl _)
   | (with_reducible exact LeO.none _)
   | (with_reducible refine LeO.ite ?_ ?_)
   | (with_reducible refine LeO.bind ?_ (fun _ => ?_))
   | exact ih0 _ _ _ _ _ _ _ _
   | exact shutterref11_mod.mono _ _ _
   | exact LeO.none _
   | refine LeO.ite ?_ ?_
   | refine LeO.bind ?_ (fun _ => ?_)
theorem shutterref11_Begin.mono : ∀ a0 a1 a2 a3 a4 a5 a6 k, LeO (shutterref11_Begin.f k a0 a1 a2 a3 a4 a5 a6) (shutterref11_Begin.f (k + 1) a0 a1 a2 a3 a4 a5 a6) := by
 intro a0 a1 a2 a3 a4 a5 a6 k
 have ih0 := shutterref11_Begin.mono_l k
 unfold shutterref11_Begin.f
 repeat' first
   | (with_reducible exact ih0 _ _ _ _ _ _ _ _)
   | (with_reducible exact shutterref11_mod.mono _ _ _)
   | (with_reducible exact LeO.refl _)
   | (with_reducible exact LeO.none _)
   | (with_reducible refine LeO.ite ?_ ?_)
   | (with_reducible refine LeO.bind ?_ (fun _ => ?_))
   | exact ih0 _ _ _ _ _ _ _ _
   | exact shutterref11_mod.mono _ _ _
   | exact LeO.none _
   | refine LeO.ite ?_ ?_
   | refine LeO.bind ?_ (fun _ => ?_)
set_option maxHeartbeats 8000000 in
set_option maxRecDepth 100000 in
theorem shutterref11_Begin.calls (k : Nat) (a0_0 : Int) (a0_1 : Int) (A0_2 : Option Addr) (c0_2 : Nat) (l0_2 : List (S44)) (a0_3 : Int) (a0_4 : Bool) (a0_5 : Bool) (a1 : Int) (r : Int) (w : World) (hr0_2 : Kd.C k44 w A0_2 l0_2.length l0_2) (hc0_2 : l0_2.length ≤ c0_2) (h : shutterref11_Begin.f k a0_0 a0_1 l0_2 a0_3 a0_4 a0_5 a1 = some r) :
  Calls Tryd.prog 40 #[.agg #[.int .i64 a0_0, .int .i64 a0_1, .slice A0_2 l0_2.length c0_2, .int .i64 a0_3, .bool a0_4, .bool a0_5], .int .i64 a1] w fun e w' => e = .returned (.int .i64 r) ∧ Below w.heap.size w w' := by
 have hu24 := Tryd.underlying24
 have HR0_2 := Aside0.mk hr0_2
 have HC0_2 := Aside0.mk hc0_2
 clear hr0_2 hc0_2
 have HB := Aside0.mk (Below.refl w.heap.size w)
 have H : (shutterref11_Begin.l0 k a1 0 a0_0 a0_1 l0_2 a0_3 a0_4 a0_5) = some r := h
 clear h
 have H' := Aside0.mk H
 clear H
 go_enter Tryd.func40, Tryd.ntmps40
 go_wp2_with (first | ((with_reducible refine gate_dst (N := 2) rfl ?_); refine box_event ?hg (N := 2) ?hd (cs := #[.int .i64 a0_0, .int .i64 a0_1, .slice A0_2 l0_2.length c0_2, .int .i64 a0_3, .bool a0_4, .bool a0_5]) (t := 24) ?hr ?_; (case hd => rfl); (case hg => rfl); (case hr => first | (go_simp; done) | (go_simp; rfl)); intro gb234 hg w3 hbox hb; have n0_ := Aside0.mk (below_step bl_ hb); have n1_ := Aside0.mk (hbox); have n2_ := Aside0.mk ((le_new hg (below_size bl_) : w.heap.size ≤ gb234)); have n3_ := Aside0.mk ((le_new hg (below_size bl_) : w.heap.size ≤ gb234)); clear HB; have HB := n0_; have BK234 := n1_; have GW234 := n2_; have GE234 := n3_; clear n0_ n1_ n2_ n3_; clear hb hbox hg))
 go_loopg [5] k (fun kq v5 w' => ∃ (x5_1 : Int), v5 = .int .i64 x5_1 ∧ Aside0 (shutterref11_Begin.l0 kq a1 x5_1 a0_0 a0_1 l0_2 a0_3 a0_4 a0_5 = some r) ∧ Aside0 (kq ≤ k) ∧ Aside0 (w'.heap[gb234]? = some (.cells #[.int .i64 a0_0, .int .i64 a0_1, (.slice A0_2 l0_2.length c0_2), .int .i64 a0_3, .bool a0_4, .bool a0_5] 24 (0, 0))) ∧ Aside0 (Below w.heap.size w w'))
 case atStart => exact ⟨(0), (by first | rfl | (simp; done) | (simp [*]; done)), H', ⟨Nat.le_refl _⟩, ⟨by (with_reducible repeat apply pK); exact BK234.out⟩, ⟨bl_⟩⟩
 case round =>
  clear H'
  try clear p2
  obtain ⟨x5_1, rfl, HA, HK1, BK234, HB⟩ := hrel
  cases gk with
  | zero => exact absurd HA.out (by simp [shutterref11_Begin.l0])
  | succ k1 =>
   have H := HA.out
   clear HA
   simp only [shutterref11_Begin.l0] at H
   by_cases c4 : x5_1 < (l0_2.length : Int)
   ·rw [if_pos c4] at H
    have c4b0 : decide (x5_1 < (l0_2.length : Int)) = true := decide_eq_true c4
    clear c4
    replace H := Option.bind_eq_some_iff.mp H
    obtain ⟨t235, A50, H⟩ := H
    replace H : (if 0 ≤ t235 then (if t235 < (l0_2.length : Int) then (if (rd_T44 l0_2 t235).f0 = true then (some t235) else (shutterref11_Begin.l0 k1 a1 (wrap64 (x5_1 + 1)) a0_0 a0_1 l0_2 a0_3 a0_4 a0_5)) else (none)) else (none)) = some r := H
    have A5 := Aside0.mk A50
    clear A50
    by_cases c6 : 0 ≤ t235
    ·rw [if_pos c6] at H
     have c6b0 : decide (0 ≤ t235) = true := decide_eq_true c6
     clear c6
     by_cases c7 : t235 < (l0_2.length : Int)
     ·rw [if_pos c7] at H
      have c7b0 : decide (t235 < (l0_2.length : Int)) = true := decide_eq_true c7
      clear c7
      obtain ⟨bq8, hbq8⟩ : ∃ b_ : Bool, b_ = ((rd_T44 l0_2 t235).f0) := ⟨_, rfl⟩
      replace H : (if bq8 = true then (some t235) else (shutterref11_Begin.l0 k1 a1 (wrap64 (x5_1 + 1)) a0_0 a0_1 l0_2 a0_3 a0_4 a0_5)) = some r := by rw [← hbq8] at H; exact H
      have Nbq8 := Aside0.mk hbq8
      clear hbq8
      by_cases c9 : bq8 = true
      ·subst c9
       have H1 : (some t235) = some r := by rw [if_pos rfl] at H; exact H
       clear H
       have H := H1
       clear H1
       obtain rfl := Option.some.inj H
       obtain ⟨hcz10_0, hcz10_1, hcz10_2, hcz10_3, hcz10_4, hcz10_5, hfz10_0, hfz10_1, hfz10_2, hfz10_3, hfz10_4, hfz10_5⟩ := cells6 (show wr.heap[gb234]? = some (.cells #[.int .i64 a0_0, .int .i64 a0_1, .slice A0_2 l0_2.length c0_2, .int .i64 a0_3, .bool a0_4, .bool a0_5] _ (0, 0)) from BK234.out)
       go_wp2_with (first | ((with_reducible refine gate_callee (f := 26) rfl ?_); refine goesL_ (some 20) rfl rfl Tryd.func26 (by kernel_rfl) rfl #[.int .i64 (wrap64 (a1 - x5_1)), .int .i64 (l0_2.length : Int)] rfl ag_ ?_; (with_reducible refine (shutterref11_mod.calls k1 (wrap64 (a1 - x5_1)) (l0_2.length : Int) t235 _ A5.out).mono ?_); rintro e w' ⟨rfl, ⟨nd, rfl⟩⟩; refine ⟨_, rfl, ?_⟩; have p236 : 0 ≤ (t235 : Int) := of_decide_eq_true (by first | (with_reducible assumption) | assumption); have q236 : t235 < (l0_2.length : Int) := of_decide_eq_true (by first | (with_reducible assumption) | assumption); obtain ⟨ad236, e236, hx236_0, hx236_1, hx236_2, hx236_3, hx236_4, hx236_5⟩ := at_T44 HR0_2.out t235 p236 q236; (try rw [← Nbq8.out] at hx236_0); (try rw [← Nbq8.out] at hx236_1); (try rw [← Nbq8.out] at hx236_2); (try rw [← Nbq8.out] at hx236_4); cases e236; replace hx236_0 := (HB.out.cell (World.block_lt_of_cell? w _ hx236_0)).trans hx236_0; replace hx236_1 := (HB.out.cell (World.block_lt_of_cell? w _ hx236_1)).trans hx236_1; replace hx236_2 := (HB.out.cell (World.block_lt_of_cell? w _ hx236_2)).trans hx236_2; replace hx236_3 := (HB.out.cell (World.block_lt_of_cell? w _ hx236_3)).trans hx236_3; replace hx236_4 := (HB.out.cell (World.block_lt_of_cell? w _ hx236_4)).trans hx236_4; replace hx236_5 := (HB.out.cell (World.block_lt_of_cell? w _ hx236_5)).trans hx236_5; replace p236 := eq_true p236; replace q236 := eq_true q236))
       go_ret
       exact ⟨by first | rfl | (simp [errW_none, errW_some] <;> rfl) | (simp [*, errW_none, errW_some] <;> rfl), bl_⟩
      ·replace c9 := Bool.eq_false_iff.mpr c9
       subst c9
       have H1 : (shutterref11_Begin.l0 k1 a1 (wrap64 (x5_1 + 1)) a0_0 a0_1 l0_2 a0_3 a0_4 a0_5) = some r := by rw [if_neg (show ¬ (false = true) by decide)] at H; exact H
       clear H
       have H := H1
       clear H1
       have H' := Aside0.mk H
       clear H
       obtain ⟨hcz11_0, hcz11_1, hcz11_2, hcz11_3, hcz11_4, hcz11_5, hfz11_0, hfz11_1, hfz11_2, hfz11_3, hfz11_4, hfz11_5⟩ := cells6 (show wr.heap[gb234]? = some (.cells #[.int .i64 a0_0, .int .i64 a0_1, .slice A0_2 l0_2.length c0_2, .int .i64 a0_3, .bool a0_4, .bool a0_5] _ (0, 0)) from BK234.out)
       go_wp2_with (first | ((with_reducible refine gate_callee (f := 26) rfl ?_); refine goesL_ (some 20) rfl rfl Tryd.func26 (by kernel_rfl) rfl #[.int .i64 (wrap64 (a1 - x5_1)), .int .i64 (l0_2.length : Int)] rfl ag_ ?_; (with_reducible refine (shutterref11_mod.calls k1 (wrap64 (a1 - x5_1)) (l0_2.length : Int) t235 _ A5.out).mono ?_); rintro e w' ⟨rfl, ⟨nd, rfl⟩⟩; refine ⟨_, rfl, ?_⟩; have p236 : 0 ≤ (t235 : Int) := of_decide_eq_true (by first | (with_reducible assumption) | assumption); have q236 : t235 < (l0_2.length : Int) := of_decide_eq_true (by first | (with_reducible assumption) | assumption); obtain ⟨ad236, e236, hx236_0, hx236_1, hx236_2, hx236_3, hx236_4, hx236_5⟩ := at_T44 HR0_2.out t235 p236 q236; (try rw [← Nbq8.out] at hx236_0); (try rw [← Nbq8.out] at hx236_1); (try rw [← Nbq8.out] at hx236_2); (try rw [← Nbq8.out] at hx236_4); cases e236; replace hx236_0 := (HB.out.cell (World.block_lt_of_cell? w _ hx236_0)).trans hx236_0; replace hx236_1 := (HB.out.cell (World.block_lt_of_cell? w _ hx236_1)).trans hx236_1; replace hx236_2 := (HB.out.cell (World.block_lt_of_cell? w _ hx236_2)).trans hx236_2; replace hx236_3 := (HB.out.cell (World.block_lt_of_cell? w _ hx236_3)).trans hx236_3; replace hx236_4 := (HB.out.cell (World.block_lt_of_cell? w _ hx236_4)).trans hx236_4; replace hx236_5 := (HB.out.cell (World.block_lt_of_cell? w _ hx236_5)).trans hx236_5; replace p236 := eq_true p236; replace q236 := eq_true q236))
       go_roundg k1
       case measure => have := HK1.out; omega
       case rel => exact ⟨(wrap64 (x5_1 + 1)), (by first | rfl | (simp; done) | (simp [*]; done)), H', ⟨by have := HK1.out; omega⟩, ⟨by (with_reducible repeat apply pK); exact BK234.out⟩, ⟨bl_⟩⟩
     ·rw [if_neg c7] at H
      exact absurd H (by simp)
    ·rw [if_neg c6] at H
     exact absurd H (by simp)
   ·rw [if_neg c4] at H
    have c4b0 : decide (x5_1 < (l0_2.length : Int)) = false := decide_eq_false c4
    clear c4
    obtain rfl := Option.some.inj H
    obtain ⟨hcz12_0, hcz12_1, hcz12_2, hcz12_3, hcz12_4, hcz12_5, hfz12_0, hfz12_1, hfz12_2, hfz12_3, hfz12_4, hfz12_5⟩ := cells6 (show wr.heap[gb234]? = some (.cells #[.int .i64 a0_0, .int .i64 a0_1, .slice A0_2 l0_2.length c0_2, .int .i64 a0_3, .bool a0_4, .bool a0_5] _ (0, 0)) from BK234.out)
    go_wp2
    go_ret
    exact ⟨by first | rfl | (simp [errW_none, errW_some] <;> rfl) | (simp [*, errW_none, errW_some] <;> rfl), bl_⟩

/-! ### shutterref11_Of: function 27 -/
def shutterref11_Of.f (k : Nat) (a0_0 : Int) (a0_1 : Int) (l0_2 : List (S44)) (a0_3 : Int) (a0_4 : Bool) (a0_5 : Bool) (a1 : Int) : Option (Bool × Bool × Int × Bool) := (shutterref11_Begin.f k a0_0 a0_1 l0_2 a0_3 a0_4 a0_5 a1).bind fun t239 => (if t239 < 0 then (some (false, false, 0, false)) else (if 0 ≤ t239 then (if t239 < (l0_2.length : Int) then (some ((rd_T44 l0_2 t239).f1.f0, (rd_T44 l0_2 t239).f1.f1, (rd_T44 l0_2 t239).f1.f2, (rd_T44 l0_2 t239).f1.f3)) else (none)) else (none)))
theorem shutterref11_Of.mono : ∀ a0 a1 a2 a3 a4 a5 a6 k, LeO (shutterref11_Of.f k a0 a1 a2 a3 a4 a5 a6) (shutterref11_Of.f (k + 1) a0 a1 a2 a3 a4 a5 a6) := by
 intro a0 a1 a2 a3 a4 a5 a6 k
 unfold shutterref11_Of.f
 repeat' first
   | (with_reducible exact shutterref11_Begin.mono _ _ _ _ _ _ _ _)
   | (with_reducible exact LeO.refl _)
   | (with_reducible exact LeO.none _)
   | (with_reducible refine LeO.ite ?_ ?_)
   | (with_reducible refine LeO.bind ?_ (fun _ => ?_))
   | exact shutterref11_Begin.mono _ _ _ _ _ _ _ _
   | exact LeO.none _
   | refine LeO.ite ?_ ?_
   | refine LeO.bind ?_ (fun _ => ?_)
set_option maxHeartbeats 8000000 in
set_option maxRecDepth 100000 in
theorem shutterref11_Of.calls (k : Nat) (a0_0 : Int) (a0_1 : Int) (A0_2 : Option Addr) (c0_2 : Nat) (l0_2 : List (S44)) (a0_3 : Int) (a0_4 : Bool) (a0_5 : Bool) (a1 : Int) (r1 : Bool) (r2 : Bool) (r3 : Int) (r4 : Bool) (w : World) (hr0_2 : Kd.C k44 w A0_2 l0_2.length l0_2) (hc0_2 : l0_2.length ≤ c0_2) (h : shutterref11_Of.f k a0_0 a0_1 l0_2 a0_3 a0_4 a0_5 a1 = some (r1, r2, r3, r4)) :
  Calls Tryd.prog 27 #[.agg #[.int .i64 a0_0, .int .i64 a0_1, .slice A0_2 l0_2.length c0_2, .int .i64 a0_3, .bool a0_4, .bool a0_5], .int .i64 a1] w fun e w' => e = .returned (.agg #[.bool r1, .bool r2, .int .i64 r3, .bool r4]) ∧ Below w.heap.size w w' := by
 have hu24 := Tryd.underlying24
 have hu42 := Tryd.underlying42
 have HR0_2 := Aside0.mk hr0_2
 have HC0_2 := Aside0.mk hc0_2
 clear hr0_2 hc0_2
 have HB := Aside0.mk (Below.refl w.heap.size w)
 have H : ((shutterref11_Begin.f k a0_0 a0_1 l0_2 a0_3 a0_4 a0_5 a1).bind fun t239 => (if t239 < 0 then (some (false, false, 0, false)) else (if 0 ≤ t239 then (if t239 < (l0_2.length : Int) then (some ((rd_T44 l0_2 t239).f1.f0, (rd_T44 l0_2 t239).f1.f1, (rd_T44 l0_2 t239).f1.f2, (rd_T44 l0_2 t239).f1.f3)) else (none)) else (none)))) = some (r1, r2, r3, r4) := h
 clear h
 replace H := Option.bind_eq_some_iff.mp H
 obtain ⟨t239, A30, H⟩ := H
 replace H : (if t239 < 0 then (some (false, false, 0, false)) else (if 0 ≤ t239 then (if t239 < (l0_2.length : Int) then (some ((rd_T44 l0_2 t239).f1.f0, (rd_T44 l0_2 t239).f1.f1, (rd_T44 l0_2 t239).f1.f2, (rd_T44 l0_2 t239).f1.f3)) else (none)) else (none))) = some (r1, r2, r3, r4) := H
 have A3 := Aside0.mk A30
 clear A30
 by_cases c4 : t239 < 0
 ·rw [if_pos c4] at H
  have c4b0 : decide (t239 < 0) = true := decide_eq_true c4
  clear c4
  simp only [Option.some.injEq, Prod.mk.injEq] at H
  obtain ⟨rfl, rfl, rfl, rfl⟩ := H
  go_enter Tryd.func27, Tryd.ntmps27
  go_wp2_with (first | ((with_reducible refine gate_dst (N := 2) rfl ?_); refine box_event ?hg (N := 2) ?hd (cs := #[.int .i64 a0_0, .int .i64 a0_1, .slice A0_2 l0_2.length c0_2, .int .i64 a0_3, .bool a0_4, .bool a0_5]) (t := 24) ?hr ?_; (case hd => rfl); (case hg => rfl); (case hr => first | (go_simp; done) | (go_simp; rfl)); intro gb237 hg w5 hbox hb; have n0_ := Aside0.mk (below_step bl_ hb); have n1_ := Aside0.mk (hbox); have n2_ := Aside0.mk ((le_new hg (below_size bl_) : w.heap.size ≤ gb237)); have n3_ := Aside0.mk ((le_new hg (below_size bl_) : w.heap.size ≤ gb237)); clear HB; have HB := n0_; have BK237 := n1_; have GW237 := n2_; have GE237 := n3_; clear n0_ n1_ n2_ n3_; clear hb hbox hg) | ((with_reducible refine gate_dst (N := 4) rfl ?_); refine box_event ?hg (N := 4) ?hd (cs := #[.bool false, .bool false, .int .i64 0, .bool false]) (t := 42) ?hr ?_; (case hd => rfl); (case hg => rfl); (case hr => first | (go_simp; done) | (go_simp; rfl)); intro gb238 hg w6 hbox hb; have n0_ := Aside0.mk (blk_below (g := gb237) (o := .cells #[.int .i64 a0_0, .int .i64 a0_1, .slice A0_2 l0_2.length c0_2, .int .i64 a0_3, .bool a0_4, .bool a0_5] 24 (0, 0)) (by (with_reducible repeat apply pK); exact BK237.out) hb); have n1_ := Aside0.mk (below_step bl_ hb); have n2_ := Aside0.mk (hbox); have n3_ := Aside0.mk ((le_new hg (below_size bl_) : w.heap.size ≤ gb238)); have n4_ := Aside0.mk ((le_new hg (below_size bl_) : w.heap.size ≤ gb238)); have n5_ := Aside0.mk ((by rw [hg]; exact Nat.ne_of_lt (blk_lt (g := gb237) (o := .cells #[.int .i64 a0_0, .int .i64 a0_1, .slice A0_2 l0_2.length c0_2, .int .i64 a0_3, .bool a0_4, .bool a0_5] 24 (0, 0)) (by (with_reducible repeat apply pK); exact BK237.out)) : gb237 ≠ gb238)); have n6_ := Aside0.mk ((by rw [hg]; exact Nat.ne_of_gt (blk_lt (g := gb237) (o := .cells #[.int .i64 a0_0, .int .i64 a0_1, .slice A0_2 l0_2.length c0_2, .int .i64 a0_3, .bool a0_4, .bool a0_5] 24 (0, 0)) (by (with_reducible repeat apply pK); exact BK237.out)) : gb238 ≠ gb237)); clear BK237; clear HB; have BK237 := n0_; have HB := n1_; have BK238 := n2_; have GW238 := n3_; have GE238 := n4_; have NB237_238 := n5_; have NB238_237 := n6_; clear n0_ n1_ n2_ n3_ n4_ n5_ n6_; clear hb hbox hg; have hnb7 := NB237_238.out; have hnc7 := NB238_237.out; obtain ⟨hcz8_0, hcz8_1, hcz8_2, hcz8_3, hcz8_4, hcz8_5, hfz8_0, hfz8_1, hfz8_2, hfz8_3, hfz8_4, hfz8_5⟩ := cells6 (show w6.heap[gb237]? = some (.cells #[.int .i64 a0_0, .int .i64 a0_1, .slice A0_2 l0_2.length c0_2, .int .i64 a0_3, .bool a0_4, .bool a0_5] _ (0, 0)) from BK237.out)) | ((with_reducible refine gate_callee (f := 40) rfl ?_); refine goesL_ (some 8) rfl rfl Tryd.func40 (by kernel_rfl) rfl #[.agg #[.int .i64 a0_0, .int .i64 a0_1, .slice A0_2 l0_2.length c0_2, .int .i64 a0_3, .bool a0_4, .bool a0_5], .int .i64 a1] rfl ag_ ?_; (with_reducible refine (shutterref11_Begin.calls k a0_0 a0_1 _ _ l0_2 a0_3 a0_4 a0_5 a1 t239 _ ?side1 ?side2 A3.out).mono ?_); (case side1 => repeat (first | exact (Kd.C_below HR0_2.out HB.out) | (with_reducible apply pC))); (case side2 => exact HC0_2.out); rintro e w9 ⟨rfl, hb⟩; refine ⟨_, rfl, ?_⟩; have n0_ := Aside0.mk (blk_below (g := gb237) (o := .cells #[.int .i64 a0_0, .int .i64 a0_1, .slice A0_2 l0_2.length c0_2, .int .i64 a0_3, .bool a0_4, .bool a0_5] 24 (0, 0)) (by (with_reducible repeat apply pK); exact BK237.out) hb); have n1_ := Aside0.mk (blk_below (g := gb238) (o := .cells #[.bool false, .bool false, .int .i64 0, .bool false] 42 (0, 0)) (by (with_reducible repeat apply pK); exact BK238.out) hb); have n2_ := Aside0.mk (below_step bl_ hb); clear BK237; clear BK238; clear HB; have BK237 := n0_; have BK238 := n1_; have HB := n2_; clear n0_ n1_ n2_; (try clear hb); (try clear hb2); (try clear hk); (try clear hi); obtain ⟨hcz10_0, hcz10_1, hcz10_2, hcz10_3, hfz10_0, hfz10_1, hfz10_2, hfz10_3⟩ := cells4 (show w9.heap[gb238]? = some (.cells #[.bool false, .bool false, .int .i64 0, .bool false] _ (0, 0)) from BK238.out)))
  refine bodyPost_ret (results_cell_row rfl _ _ gb238 42 #[.bool false, .bool false, .int .i64 0, .bool false] (0, 0) _ rfl (by (with_reducible repeat apply pK); refine blk_put (cs := #[.bool false, .bool false, .int .i64 0, .bool false]) ?_ 3 _ rfl; (with_reducible repeat apply pK); refine blk_put (cs := #[.bool false, .bool false, .int .i64 0, .bool false]) ?_ 2 _ rfl; (with_reducible repeat apply pK); refine blk_put (cs := #[.bool false, .bool false, .int .i64 0, .bool false]) ?_ 1 _ rfl; (with_reducible repeat apply pK); refine blk_put (cs := #[.bool false, .bool false, .int .i64 0, .bool false]) ?_ 0 _ rfl; (with_reducible repeat apply pK); exact BK238.out) Tryd.underlying42 rfl (by kernel_rfl)) rfl ?_
  exact ⟨by first | rfl | (simp [errW_none, errW_some] <;> rfl) | (simp [*, errW_none, errW_some] <;> rfl), bl_⟩
 ·rw [if_neg c4] at H
  have c4b0 : decide (t239 < 0) = false := decide_eq_false c4
  clear c4
  by_cases c11 : 0 ≤ t239
  ·rw [if_pos c11] at H
   have c11b0 : decide (0 ≤ t239) = true := decide_eq_true c11
   clear c11
   by_cases c12 : t239 < (l0_2.length : Int)
   ·rw [if_pos c12] at H
    have c12b0 : decide (t239 < (l0_2.length : Int)) = true := decide_eq_true c12
    clear c12
    simp only [Option.some.injEq, Prod.mk.injEq] at H
    obtain ⟨rfl, rfl, rfl, rfl⟩ := H
    go_enter Tryd.func27, Tryd.ntmps27
    go_wp2_with (first | ((with_reducible refine gate_dst (N := 2) rfl ?_); refine box_event ?hg (N := 2) ?hd (cs := #[.int .i64 a0_0, .int .i64 a0_1, .slice A0_2 l0_2.length c0_2, .int .i64 a0_3, .bool a0_4, .bool a0_5]) (t := 24) ?hr ?_; (case hd => rfl); (case hg => rfl); (case hr => first | (go_simp; done) | (go_simp; rfl)); intro gb237 hg w13 hbox hb; have n0_ := Aside0.mk (below_step bl_ hb); have n1_ := Aside0.mk (hbox); have n2_ := Aside0.mk ((le_new hg (below_size bl_) : w.heap.size ≤ gb237)); have n3_ := Aside0.mk ((le_new hg (below_size bl_) : w.heap.size ≤ gb237)); clear HB; have HB := n0_; have BK237 := n1_; have GW237 := n2_; have GE237 := n3_; clear n0_ n1_ n2_ n3_; clear hb hbox hg) | ((with_reducible refine gate_dst (N := 4) rfl ?_); refine box_event ?hg (N := 4) ?hd (cs := #[.bool false, .bool false, .int .i64 0, .bool false]) (t := 42) ?hr ?_; (case hd => rfl); (case hg => rfl); (case hr => first | (go_simp; done) | (go_simp; rfl)); intro gb238 hg w14 hbox hb; have n0_ := Aside0.mk (blk_below (g := gb237) (o := .cells #[.int .i64 a0_0, .int .i64 a0_1, .slice A0_2 l0_2.length c0_2, .int .i64 a0_3, .bool a0_4, .bool a0_5] 24 (0, 0)) (by (with_reducible repeat apply pK); exact BK237.out) hb); have n1_ := Aside0.mk (below_step bl_ hb); have n2_ := Aside0.mk (hbox); have n3_ := Aside0.mk ((le_new hg (below_size bl_) : w.heap.size ≤ gb238)); have n4_ := Aside0.mk ((le_new hg (below_size bl_) : w.heap.size ≤ gb238)); have n5_ := Aside0.mk ((by rw [hg]; exact Nat.ne_of_lt (blk_lt (g := gb237) (o := .cells #[.int .i64 a0_0, .int .i64 a0_1, .slice A0_2 l0_2.length c0_2, .int .i64 a0_3, .bool a0_4, .bool a0_5] 24 (0, 0)) (by (with_reducible repeat apply pK); exact BK237.out)) : gb237 ≠ gb238)); have n6_ := Aside0.mk ((by rw [hg]; exact Nat.ne_of_gt (blk_lt (g := gb237) (o := .cells #[.int .i64 a0_0, .int .i64 a0_1, .slice A0_2 l0_2.length c0_2, .int .i64 a0_3, .bool a0_4, .bool a0_5] 24 (0, 0)) (by (with_reducible repeat apply pK); exact BK237.out)) : gb238 ≠ gb237)); clear BK237; clear HB; have BK237 := n0_; have HB := n1_; have BK238 := n2_; have GW238 := n3_; have GE238 := n4_; have NB237_238 := n5_; have NB238_237 := n6_; clear n0_ n1_ n2_ n3_ n4_ n5_ n6_; clear hb hbox hg; have hnb15 := NB237_238.out; have hnc15 := NB238_237.out; obtain ⟨hcz16_0, hcz16_1, hcz16_2, hcz16_3, hcz16_4, hcz16_5, hfz16_0, hfz16_1, hfz16_2, hfz16_3, hfz16_4, hfz16_5⟩ := cells6 (show w14.heap[gb237]? = some (.cells #[.int .i64 a0_0, .int .i64 a0_1, .slice A0_2 l0_2.length c0_2, .int .i64 a0_3, .bool a0_4, .bool a0_5] _ (0, 0)) from BK237.out)) | ((with_reducible refine gate_callee (f := 40) rfl ?_); refine goesL_ (some 8) rfl rfl Tryd.func40 (by kernel_rfl) rfl #[.agg #[.int .i64 a0_0, .int .i64 a0_1, .slice A0_2 l0_2.length c0_2, .int .i64 a0_3, .bool a0_4, .bool a0_5], .int .i64 a1] rfl ag_ ?_; (with_reducible refine (shutterref11_Begin.calls k a0_0 a0_1 _ _ l0_2 a0_3 a0_4 a0_5 a1 t239 _ ?side1 ?side2 A3.out).mono ?_); (case side1 => repeat (first | exact (Kd.C_below HR0_2.out HB.out) | (with_reducible apply pC))); (case side2 => exact HC0_2.out); rintro e w17 ⟨rfl, hb⟩; refine ⟨_, rfl, ?_⟩; have n0_ := Aside0.mk (blk_below (g := gb237) (o := .cells #[.int .i64 a0_0, .int .i64 a0_1, .slice A0_2 l0_2.length c0_2, .int .i64 a0_3, .bool a0_4, .bool a0_5] 24 (0, 0)) (by (with_reducible repeat apply pK); exact BK237.out) hb); have n1_ := Aside0.mk (blk_below (g := gb238) (o := .cells #[.bool false, .bool false, .int .i64 0, .bool false] 42 (0, 0)) (by (with_reducible repeat apply pK); exact BK238.out) hb); have n2_ := Aside0.mk (below_step bl_ hb); clear BK237; clear BK238; clear HB; have BK237 := n0_; have BK238 := n1_; have HB := n2_; clear n0_ n1_ n2_; (try clear hb); (try clear hb2); (try clear hk); (try clear hi); obtain ⟨hcz18_0, hcz18_1, hcz18_2, hcz18_3, hcz18_4, hcz18_5, hfz18_0, hfz18_1, hfz18_2, hfz18_3, hfz18_4, hfz18_5⟩ := cells6 (show w17.heap[gb237]? = some (.cells #[.int .i64 a0_0, .int .i64 a0_1, .slice A0_2 l0_2.length c0_2, .int .i64 a0_3, .bool a0_4, .bool a0_5] _ (0, 0)) from BK237.out); have p240 : 0 ≤ (t239 : Int) := of_decide_eq_true (by first | (with_reducible assumption) | assumption); have q240 : t239 < (l0_2.length : Int) := of_decide_eq_true (by first | (with_reducible assumption) | assumption); obtain ⟨ad240, e240, hx240_0, hx240_1, hx240_2, hx240_3, hx240_4, hx240_5⟩ := at_T44 HR0_2.out t239 p240 q240; cases e240; replace hx240_0 := (HB.out.cell (World.block_lt_of_cell? w _ hx240_0)).trans hx240_0; replace hx240_1 := (HB.out.cell (World.block_lt_of_cell? w _ hx240_1)).trans hx240_1; replace hx240_2 := (HB.out.cell (World.block_lt_of_cell? w _ hx240_2)).trans hx240_2; replace hx240_3 := (HB.out.cell (World.block_lt_of_cell? w _ hx240_3)).trans hx240_3; replace hx240_4 := (HB.out.cell (World.block_lt_of_cell? w _ hx240_4)).trans hx240_4; replace hx240_5 := (HB.out.cell (World.block_lt_of_cell? w _ hx240_5)).trans hx240_5; replace p240 := eq_true p240; replace q240 := eq_true q240; obtain ⟨hcz19_0, hcz19_1, hcz19_2, hcz19_3, hfz19_0, hfz19_1, hfz19_2, hfz19_3⟩ := cells4 (show w17.heap[gb238]? = some (.cells #[.bool false, .bool false, .int .i64 0, .bool false] _ (0, 0)) from BK238.out)))
    refine bodyPost_ret (results_cell_row rfl _ _ gb238 42 #[.bool ((rd_T44 l0_2 t239).f1.f0), .bool ((rd_T44 l0_2 t239).f1.f1), .int .i64 ((rd_T44 l0_2 t239).f1.f2), .bool ((rd_T44 l0_2 t239).f1.f3)] (0, 0) _ rfl (by (with_reducible repeat apply pK); refine blk_put (cs := #[.bool ((rd_T44 l0_2 t239).f1.f0), .bool ((rd_T44 l0_2 t239).f1.f1), .int .i64 ((rd_T44 l0_2 t239).f1.f2), .bool false]) ?_ 3 _ rfl; (with_reducible repeat apply pK); refine blk_put (cs := #[.bool ((rd_T44 l0_2 t239).f1.f0), .bool ((rd_T44 l0_2 t239).f1.f1), .int .i64 0, .bool false]) ?_ 2 _ rfl; (with_reducible repeat apply pK); refine blk_put (cs := #[.bool ((rd_T44 l0_2 t239).f1.f0), .bool false, .int .i64 0, .bool false]) ?_ 1 _ rfl; (with_reducible repeat apply pK); refine blk_put (cs := #[.bool false, .bool false, .int .i64 0, .bool false]) ?_ 0 _ rfl; (with_reducible repeat apply pK); exact BK238.out) Tryd.underlying42 rfl (by kernel_rfl)) rfl ?_
    exact ⟨by first | rfl | (simp [errW_none, errW_some] <;> rfl) | (simp [*, errW_none, errW_some] <;> rfl), bl_⟩
   ·rw [if_neg c12] at H
    exact absurd H (by simp)
  ·rw [if_neg c11] at H
   exact absurd H (by simp)

/-! ### shutterref11_Open: function 17 -/
def shutterref11_Open.f (k : Nat) (a0_0 : Int) (a0_1 : Int) (l0_2 : List (S44)) (a0_3 : Int) (a0_4 : Bool) (a0_5 : Bool) (a1 : Int) : Option (Bool) := if 0 ≤ a1 then (if a1 < (l0_2.length : Int) then (if ((rd_T44 l0_2 a1).f0 = true) then (some false) else ((shutterref11_Of.f k a0_0 a0_1 l0_2 a0_3 a0_4 a0_5 a1).bind fun bt243 => (some (!bt243.1)))) else (none)) else (none)
theorem shutterref11_Open.mono : ∀ a0 a1 a2 a3 a4 a5 a6 k, LeO (shutterref11_Open.f k a0 a1 a2 a3 a4 a5 a6) (shutterref11_Open.f (k + 1) a0 a1 a2 a3 a4 a5 a6) := by
 intro a0 a1 a2 a3 a4 a5 a6 k
 unfold shutterref11_Open.f
 repeat' first
   | (with_reducible exact shutterref11_Of.mono _ _ _ _ _ _ _ _)
   | (with_reducible exact LeO.refl _)
   | (with_reducible exact LeO.none _)
   | (with_reducible refine LeO.ite ?_ ?_)
   | (with_reducible refine LeO.bind ?_ (fun _ => ?_))
   | exact shutterref11_Of.mono _ _ _ _ _ _ _ _
   | exact LeO.none _
   | refine LeO.ite ?_ ?_
   | refine LeO.bind ?_ (fun _ => ?_)
set_option maxHeartbeats 8000000 in
set_option maxRecDepth 100000 in
theorem shutterref11_Open.calls (k : Nat) (a0_0 : Int) (a0_1 : Int) (A0_2 : Option Addr) (c0_2 : Nat) (l0_2 : List (S44)) (a0_3 : Int) (a0_4 : Bool) (a0_5 : Bool) (a1 : Int) (r : Bool) (w : World) (hr0_2 : Kd.C k44 w A0_2 l0_2.length l0_2) (hc0_2 : l0_2.length ≤ c0_2) (h : shutterref11_Open.f k a0_0 a0_1 l0_2 a0_3 a0_4 a0_5 a1 = some r) :
  Calls Tryd.prog 17 #[.agg #[.int .i64 a0_0, .int .i64 a0_1, .slice A0_2 l0_2.length c0_2, .int .i64 a0_3, .bool a0_4, .bool a0_5], .int .i64 a1] w fun e w' => e = .returned (.bool r) ∧ Below w.heap.size w w' := by
 have hu24 := Tryd.underlying24
 have hu42 := Tryd.underlying42
 have HR0_2 := Aside0.mk hr0_2
 have HC0_2 := Aside0.mk hc0_2
 clear hr0_2 hc0_2
 have HB := Aside0.mk (Below.refl w.heap.size w)
 have H : (if 0 ≤ a1 then (if a1 < (l0_2.length : Int) then (if ((rd_T44 l0_2 a1).f0 = true) then (some false) else ((shutterref11_Of.f k a0_0 a0_1 l0_2 a0_3 a0_4 a0_5 a1).bind fun bt243 => (some (!bt243.1)))) else (none)) else (none)) = some r := h
 clear h
 by_cases c3 : 0 ≤ a1
 ·rw [if_pos c3] at H
  have c3b0 : decide (0 ≤ a1) = true := decide_eq_true c3
  clear c3
  by_cases c4 : a1 < (l0_2.length : Int)
  ·rw [if_pos c4] at H
   have c4b0 : decide (a1 < (l0_2.length : Int)) = true := decide_eq_true c4
   clear c4
   obtain ⟨bq5, hbq5⟩ : ∃ b_ : Bool, b_ = ((rd_T44 l0_2 a1).f0) := ⟨_, rfl⟩
   replace H : (if (bq5 = true) then (some false) else ((shutterref11_Of.f k a0_0 a0_1 l0_2 a0_3 a0_4 a0_5 a1).bind fun bt243 => (some (!bt243.1)))) = some r := by rw [← hbq5] at H; exact H
   have Nbq5 := Aside0.mk hbq5
   clear hbq5
   by_cases c6 : (bq5 = true)
   ·subst c6
    have H1 : (some false) = some r := by rw [if_pos rfl] at H; exact H
    clear H
    have H := H1
    clear H1
    obtain rfl := Option.some.inj H
    go_enter Tryd.func17, Tryd.ntmps17
    go_wp2_with (first | ((with_reducible refine gate_dst (N := 2) rfl ?_); refine box_event ?hg (N := 2) ?hd (cs := #[.int .i64 a0_0, .int .i64 a0_1, .slice A0_2 l0_2.length c0_2, .int .i64 a0_3, .bool a0_4, .bool a0_5]) (t := 24) ?hr ?_; (case hd => rfl); (case hg => rfl); (case hr => first | (go_simp; done) | (go_simp; rfl)); intro gb241 hg w7 hbox hb; have n0_ := Aside0.mk (below_step bl_ hb); have n1_ := Aside0.mk (hbox); have n2_ := Aside0.mk ((le_new hg (below_size bl_) : w.heap.size ≤ gb241)); have n3_ := Aside0.mk ((le_new hg (below_size bl_) : w.heap.size ≤ gb241)); clear HB; have HB := n0_; have BK241 := n1_; have GW241 := n2_; have GE241 := n3_; clear n0_ n1_ n2_ n3_; clear hb hbox hg; obtain ⟨hcz8_0, hcz8_1, hcz8_2, hcz8_3, hcz8_4, hcz8_5, hfz8_0, hfz8_1, hfz8_2, hfz8_3, hfz8_4, hfz8_5⟩ := cells6 (show w7.heap[gb241]? = some (.cells #[.int .i64 a0_0, .int .i64 a0_1, .slice A0_2 l0_2.length c0_2, .int .i64 a0_3, .bool a0_4, .bool a0_5] _ (0, 0)) from BK241.out); have p242 : 0 ≤ (a1 : Int) := of_decide_eq_true (by first | (with_reducible assumption) | assumption); have q242 : a1 < (l0_2.length : Int) := of_decide_eq_true (by first | (with_reducible assumption) | assumption); obtain ⟨ad242, e242, hx242_0, hx242_1, hx242_2, hx242_3, hx242_4, hx242_5⟩ := at_T44 HR0_2.out a1 p242 q242; (try rw [← Nbq5.out] at hx242_0); (try rw [← Nbq5.out] at hx242_1); (try rw [← Nbq5.out] at hx242_2); (try rw [← Nbq5.out] at hx242_4); cases e242; replace hx242_0 := (HB.out.cell (World.block_lt_of_cell? w _ hx242_0)).trans hx242_0; replace hx242_1 := (HB.out.cell (World.block_lt_of_cell? w _ hx242_1)).trans hx242_1; replace hx242_2 := (HB.out.cell (World.block_lt_of_cell? w _ hx242_2)).trans hx242_2; replace hx242_3 := (HB.out.cell (World.block_lt_of_cell? w _ hx242_3)).trans hx242_3; replace hx242_4 := (HB.out.cell (World.block_lt_of_cell? w _ hx242_4)).trans hx242_4; replace hx242_5 := (HB.out.cell (World.block_lt_of_cell? w _ hx242_5)).trans hx242_5; replace p242 := eq_true p242; replace q242 := eq_true q242))
    go_ret
    exact ⟨by first | rfl | (simp [errW_none, errW_some] <;> rfl) | (simp [*, errW_none, errW_some] <;> rfl), bl_⟩
   ·replace c6 := Bool.eq_false_iff.mpr c6
    subst c6
    have H1 : ((shutterref11_Of.f k a0_0 a0_1 l0_2 a0_3 a0_4 a0_5 a1).bind fun bt243 => (some (!bt243.1))) = some r := by rw [if_neg (show ¬ (false = true) by decide)] at H; exact H
    clear H
    have H := H1
    clear H1
    replace H := Option.bind_eq_some_iff.mp H
    obtain ⟨⟨t243, t244, t245, t246⟩, A90, H⟩ := H
    replace H : (some (!t243)) = some r := H
    have A9 := Aside0.mk A90
    clear A90
    obtain rfl := Option.some.inj H
    go_enter Tryd.func17, Tryd.ntmps17
    go_wp2_with (first | ((with_reducible refine gate_dst (N := 2) rfl ?_); refine box_event ?hg (N := 2) ?hd (cs := #[.int .i64 a0_0, .int .i64 a0_1, .slice A0_2 l0_2.length c0_2, .int .i64 a0_3, .bool a0_4, .bool a0_5]) (t := 24) ?hr ?_; (case hd => rfl); (case hg => rfl); (case hr => first | (go_simp; done) | (go_simp; rfl)); intro gb241 hg w10 hbox hb; have n0_ := Aside0.mk (below_step bl_ hb); have n1_ := Aside0.mk (hbox); have n2_ := Aside0.mk ((le_new hg (below_size bl_) : w.heap.size ≤ gb241)); have n3_ := Aside0.mk ((le_new hg (below_size bl_) : w.heap.size ≤ gb241)); clear HB; have HB := n0_; have BK241 := n1_; have GW241 := n2_; have GE241 := n3_; clear n0_ n1_ n2_ n3_; clear hb hbox hg; obtain ⟨hcz11_0, hcz11_1, hcz11_2, hcz11_3, hcz11_4, hcz11_5, hfz11_0, hfz11_1, hfz11_2, hfz11_3, hfz11_4, hfz11_5⟩ := cells6 (show w10.heap[gb241]? = some (.cells #[.int .i64 a0_0, .int .i64 a0_1, .slice A0_2 l0_2.length c0_2, .int .i64 a0_3, .bool a0_4, .bool a0_5] _ (0, 0)) from BK241.out); have p242 : 0 ≤ (a1 : Int) := of_decide_eq_true (by first | (with_reducible assumption) | assumption); have q242 : a1 < (l0_2.length : Int) := of_decide_eq_true (by first | (with_reducible assumption) | assumption); obtain ⟨ad242, e242, hx242_0, hx242_1, hx242_2, hx242_3, hx242_4, hx242_5⟩ := at_T44 HR0_2.out a1 p242 q242; (try rw [← Nbq5.out] at hx242_0); (try rw [← Nbq5.out] at hx242_1); (try rw [← Nbq5.out] at hx242_2); (try rw [← Nbq5.out] at hx242_4); cases e242; replace hx242_0 := (HB.out.cell (World.block_lt_of_cell? w _ hx242_0)).trans hx242_0; replace hx242_1 := (HB.out.cell (World.block_lt_of_cell? w _ hx242_1)).trans hx242_1; replace hx242_2 := (HB.out.cell (World.block_lt_of_cell? w _ hx242_2)).trans hx242_2; replace hx242_3 := (HB.out.cell (World.block_lt_of_cell? w _ hx242_3)).trans hx242_3; replace hx242_4 := (HB.out.cell (World.block_lt_of_cell? w _ hx242_4)).trans hx242_4; replace hx242_5 := (HB.out.cell (World.block_lt_of_cell? w _ hx242_5)).trans hx242_5; replace p242 := eq_true p242; replace q242 := eq_true q242) | (go_at_call 27; (with_reducible refine (shutterref11_Of.calls k a0_0 a0_1 _ _ l0_2 a0_3 a0_4 a0_5 a1 t243 t244 t245 t246 _ ?side1 ?side2 A9.out).mono ?_); (case side1 => repeat (first | exact (Kd.C_below HR0_2.out HB.out) | (with_reducible apply pC))); (case side2 => exact HC0_2.out); rintro e w12 ⟨rfl, hb⟩; have n0_ := Aside0.mk (blk_below (g := gb241) (o := .cells #[.int .i64 a0_0, .int .i64 a0_1, .slice (some ad242) l0_2.length c0_2, .int .i64 a0_3, .bool a0_4, .bool a0_5] 24 (0, 0)) (by (with_reducible repeat apply pK); exact BK241.out) hb); have n1_ := Aside0.mk (below_step bl_ hb); clear BK241; clear HB; have BK241 := n0_; have HB := n1_; clear n0_ n1_; (try clear hb); (try clear hb2); (try clear hk); (try clear hi)))
    go_ret
    exact ⟨by first | rfl | (simp [errW_none, errW_some] <;> rfl) | (simp [*, errW_none, errW_some] <;> rfl), bl_⟩
  ·rw [if_neg c4] at H
   exact absurd H (by simp)
 ·rw [if_neg c3] at H
  exact absurd H (by simp)

/-! ### shutterref15_zero: function 33 -/
def shutterref15_zero.f (a0 : Int) : Option (Int) := if a0 < 0 then (some 0) else (some a0)
set_option maxHeartbeats 8000000 in
set_option maxRecDepth 100000 in
theorem shutterref15_zero.calls (a0 : Int) (r : Int) (w : World) (h : shutterref15_zero.f a0 = some r) :
  Calls Tryd.prog 33 #[.int .i64 a0] w fun e w' => e = .returned (.int .i64 r) ∧ Drawn0 w w' := by
 have H : (if a0 < 0 then (some 0) else (some a0)) = some r := h
 clear h
 by_cases c2 : a0 < 0
 ·rw [if_pos c2] at H
  have c2b0 : decide (a0 < 0) = true := decide_eq_true c2
  clear c2
  obtain rfl := Option.some.inj H
  go_enter Tryd.func33, Tryd.ntmps33
  go_wp2
  go_ret
  exact ⟨by first | rfl | (simp; done) | (simp [*]; done), by repeat (first | exact Drawn0.refl _ | apply Drawn0.step)⟩
 ·rw [if_neg c2] at H
  have c2b0 : decide (a0 < 0) = false := decide_eq_false c2
  clear c2
  obtain rfl := Option.some.inj H
  go_enter Tryd.func33, Tryd.ntmps33
  go_wp2
  go_ret
  exact ⟨by first | rfl | (simp; done) | (simp [*]; done), by repeat (first | exact Drawn0.refl _ | apply Drawn0.step)⟩

end Go.Proofs.YtapcfcagjlmgjaaDoor.P
