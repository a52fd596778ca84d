/- The functions of the seat's laws as plain Lean functions, and that Go's code comes to just their answers. Written by pp.py (wip/tools), a program of this session, on the kit's print. -/
import Derived.Test.YtapcfcagjlmgjaaDoorPx0
import Derived.Test.YtapcfcagjlmgjaaDoorPx6
import Derived.Test.YtapcfcagjlmgjaaDoorPx7
import Derived.Test.YtapcfcagjlmgjaaDoorPx12
namespace Go.Proofs.YtapcfcagjlmgjaaDoor.P
open Go.RowKit Go.Proofs.YtapcfcagjlmgjaaDoorW.PrintWords Go.Proofs.YtapcfcagjlmgjaaDoorW.PrintLast Go.Proofs.YtapcfcagjlmgjaaDoorW.PrintMore
attribute [local go_sem] max2_int min2_int max_two min_two max_three min_three max_four min_four   -- for this text's walks alone
attribute [local go_sem] Instr.field asAgg
set_option linter.unusedVariables false
set_option linter.unusedSimpArgs false

/-! ### shutterlaw15_MoveRound: function 7 -/
mutual
def shutterlaw15_MoveRound.j0 : Nat → Int → Int → Int → List (S44) → Int → Bool → Bool → Option (Bool)
 | 0, _, _, _, _, _, _, _ => none
 | k + 1, x5, x414000, x414001, x414002, x414003, x414004, x414005 => if 0 ≤ (x414002.length : Int) then (if ((x414002.length : Int) : Int).toNat ≤ 281474976710656 then (shutterlaw15_MoveRound.l0 k x5 (List.replicate ((x414002.length : Int) : Int).toNat false) 0 x414000 x414001 x414002 x414003 x414004 x414005 x414000 x414001 x414002 x414003 x414004 x414005) else (none)) else (none)
def shutterlaw15_MoveRound.l0 : Nat → Int → List Bool → Int → Int → Int → List (S44) → Int → Bool → Bool → Int → Int → List (S44) → Int → Bool → Bool → Option (Bool)
 | 0, _, _, _, _, _, _, _, _, _, _, _, _, _, _, _ => none
 | k + 1, x5, x6, x8, x414000, x414001, x414002, x414003, x414004, x414005, x421000, x421001, x421002, x421003, x421004, x421005 => if x8 < (x414002.length : Int) then (if 0 ≤ x421003 then (if x421003 < (x6.length : Int) then (if rdOf false x6 x421003 = true then (none) else ((move_Do.f k x421000 x421001 x421002 x421003 x421004 x421005 x5).bind fun bt424 => (if bt424.2.2.2.2.2.2.isNone = true then (if bt424.2.2.2.1 < 0 then (none) else (if bt424.2.2.2.1 ≥ (x414002.length : Int) then (none) else (shutterlaw15_MoveRound.l0 k x5 (x6.set (x421003 : Int).toNat true) (wrap64 (x8 + 1)) x414000 x414001 x414002 x414003 x414004 x414005 bt424.1 bt424.2.1 bt424.2.2.1 bt424.2.2.2.1 bt424.2.2.2.2.1 bt424.2.2.2.2.2.1))) else (none)))) else (none)) else (none)) else ((shutterref10_Same.f k x421000 x421001 x421002 x421003 x421004 x421005 x414000 x414001 x414002 x414003 x414004 x414005).bind fun t421 => (some t421))
end
def shutterlaw15_MoveRound.f (k : Nat) (a0_0 : Int) (a0_1 : Int) (l0_2 : List (S44)) (a0_3 : Int) (a0_4 : Bool) (a0_5 : Bool) (a1 : Bool) : Option (Bool) := (shutterlaw15_awake.f k).bind fun t414 => (if t414 = true then ((shutterref10_Few.f k a0_0 a0_1 l0_2 a0_3 a0_4 a0_5).bind fun t415 => (if t415 = true then (if a1 = true then (shutterlaw15_MoveRound.j0 k 2 a0_0 a0_1 l0_2 a0_3 false a0_5) else (shutterlaw15_MoveRound.j0 k 3 a0_0 a0_1 l0_2 a0_3 false a0_5)) else ((shutterlaw15_awake.f k).bind fun t416 => (some t416)))) else (none))
theorem shutterlaw15_MoveRound.mono_l : ∀ k, (∀ y0 y1 y2 y3 y4 y5 y6, LeO (shutterlaw15_MoveRound.j0 k y0 y1 y2 y3 y4 y5 y6) (shutterlaw15_MoveRound.j0 (k + 1) y0 y1 y2 y3 y4 y5 y6)) ∧ (∀ y0 y1 y2 y3 y4 y5 y6 y7 y8 y9 y10 y11 y12 y13 y14, LeO (shutterlaw15_MoveRound.l0 k y0 y1 y2 y3 y4 y5 y6 y7 y8 y9 y10 y11 y12 y13 y14) (shutterlaw15_MoveRound.l0 (k + 1) y0 y1 y2 y3 y4 y5 y6 y7 y8 y9 y10 y11 y12 y13 y14))
 | 0 => ⟨fun _ _ _ _ _ _ _ r h => by simp [shutterlaw15_MoveRound.j0] at h, fun _ _ _ _ _ _ _ _ _ _ _ _ _ _ _ r h => by simp [shutterlaw15_MoveRound.l0] at h⟩
 | k + 1 => by
  obtain ⟨ih0, ih1⟩ := shutterlaw15_MoveRound.mono_l k
  refine ⟨?_, ?_⟩
  ·intro y0 y1 y2 y3 y4 y5 y6
   unfold shutterlaw15_MoveRound.j0
   repeat' first
   | (with_reducible exact ih0 _ _ _ _ _ _ _)
   | (with_reducible exact ih1 _ _ _ _ _ _ _ _ _ _ _ _ _ _ _)
   | (with_reducible exact move_Do.mono _ _ _ _ _ _ _ _)
   | (with_reducible exact shutterlaw15_awake.mono _)
   | (with_reducible exact shutterref10_Few.mono _ _ _ _ _ _ _)
   | (with_reducible exact shutterref10_Same.mono _ _ _ _ _ _ _ _ _ _ _ _ _)
   | (with_reducible exact LeO.refl _)
   | (with_reducible exact LeO.none _)
   | (with_reducible refine LeO.ite ?_ ?_)
   | (with_reducible refine LeO.bind ?_ (fun _ => ?_))
   | exact ih0 _ _ _ _ _ _ _
   | exact ih1 _ _ _ _ _ _ _ _ _ _ _ _ _ _ _
   | exact move_Do.mono _ _ _ _ _ _ _ _
   | exact shutterlaw15_awake.mono _
   | exact shutterref10_Few.mono _ _ _ _ _ _ _
   | exact shutterref10_Same.mono _ _ _ _ _ _ _ _ _ _ _ _ _
   | exact LeO.none _
   | refine LeO.ite ?_ ?_
   | refine LeO.bind ?_ (fun _ => ?_)
  ·intro y0 y1 y2 y3 y4 y5 y6 y7 y8 y9 y10 y11 y12 y13 y14
   unfold shutterlaw15_MoveRound.l0
   repeat' first
   | (with_reducible exact ih0 _ _ _ _ _ _ _)
   | (with_reducible exact ih1 _ _ _ _ _ _ _ _ _ _ _ _ _ _ _)
   | (with_reducible exact move_Do.mono _ _ _ _ _ _ _ _)
   | (with_reducible exact shutterlaw15_awake.mono _)
   | (with_reducible exact shutterref10_Few.mono _ _ _ _ _ _ _)
   | (with_reducible exact shutterref10_Same.mono _ _ _ _ _ _ _ _ _ _ _ _ _)
   | (with_reducible exact LeO.refl _)
   | (with_reducible exact LeO.none _)
   | (with_reducible refine LeO.ite ?_ ?_)
   | (with_reducible refine LeO.bind ?_ (fun _ => ?_))
   | exact ih0 _ _ _ _ _ _ _
   | exact ih1 _ _ _ _ _ _ _ _ _ _ _ _ _ _ _
   | exact move_Do.mono _ _ _ _ _ _ _ _
   | exact shutterlaw15_awake.mono _
   | exact shutterref10_Few.mono _ _ _ _ _ _ _
   | exact shutterref10_Same.mono _ _ _ _ _ _ _ _ _ _ _ _ _
   | exact LeO.none _
   | refine LeO.ite ?_ ?_
   | refine LeO.bind ?_ (fun _ => ?_)
theorem shutterlaw15_MoveRound.mono : ∀ a0 a1 a2 a3 a4 a5 a6 k, LeO (shutterlaw15_MoveRound.f k a0 a1 a2 a3 a4 a5 a6) (shutterlaw15_MoveRound.f (k + 1) a0 a1 a2 a3 a4 a5 a6) := by
 intro a0 a1 a2 a3 a4 a5 a6 k
 obtain ⟨ih0, ih1⟩ := shutterlaw15_MoveRound.mono_l k
 unfold shutterlaw15_MoveRound.f
 repeat' first
   | (with_reducible exact ih0 _ _ _ _ _ _ _)
   | (with_reducible exact ih1 _ _ _ _ _ _ _ _ _ _ _ _ _ _ _)
   | (with_reducible exact move_Do.mono _ _ _ _ _ _ _ _)
   | (with_reducible exact shutterlaw15_awake.mono _)
   | (with_reducible exact shutterref10_Few.mono _ _ _ _ _ _ _)
   | (with_reducible exact shutterref10_Same.mono _ _ _ _ _ _ _ _ _ _ _ _ _)
   | (with_reducible exact LeO.refl _)
   | (with_reducible exact LeO.none _)
   | (with_reducible refine LeO.ite ?_ ?_)
   | (with_reducible refine LeO.bind ?_ (fun _ => ?_))
   | exact ih0 _ _ _ _ _ _ _
   | exact ih1 _ _ _ _ _ _ _ _ _ _ _ _ _ _ _
   | exact move_Do.mono _ _ _ _ _ _ _ _
   | exact shutterlaw15_awake.mono _
   | exact shutterref10_Few.mono _ _ _ _ _ _ _
   | exact shutterref10_Same.mono _ _ _ _ _ _ _ _ _ _ _ _ _
   | exact LeO.none _
   | refine LeO.ite ?_ ?_
   | refine LeO.bind ?_ (fun _ => ?_)
set_option maxHeartbeats 8000000 in
set_option maxRecDepth 100000 in
theorem shutterlaw15_MoveRound.calls (k : Nat) (a0_0 : Int) (a0_1 : Int) (P0_2_ : Nat → Prop) (A0_2 : Option Addr) (c0_2 : Nat) (l0_2 : List (S44)) (a0_3 : Int) (a0_4 : Bool) (a0_5 : Bool) (a1 : Bool) (r : Bool) (w : World) (hs0_2 : Kd.V k44 44 w w.heap.size (fun k_ => P0_2_ k_) (.slice A0_2 l0_2.length c0_2) l0_2) (hG : LaidG w) (h : shutterlaw15_MoveRound.f k a0_0 a0_1 l0_2 a0_3 a0_4 a0_5 a1 = some r) :
  Calls Tryd.prog 7 #[.agg #[.int .i64 a0_0, .int .i64 a0_1, .slice A0_2 l0_2.length c0_2, .int .i64 a0_3, .bool a0_4, .bool a0_5], .bool a1] w fun e w' => e = .returned (.bool r) ∧ Below w.heap.size w w' := by
 have HG := Aside0.mk hG
 clear hG
 have hu24 := Tryd.underlying24
 have hu28 := Tryd.underlying28
 have hu47 := Tryd.underlying47
 have HO0_2 := Aside0.mk (show Kd.V k44 44 w w.heap.size (fun k_ => (P0_2_ k_ ∨ w.heap.size ≤ k_)) (.slice A0_2 l0_2.length c0_2) l0_2 from Kd.V_mono hs0_2 (fun k_ hk => .inl hk))
 have HB := Aside0.mk (Below.refl w.heap.size w)
 have H : ((shutterlaw15_awake.f k).bind fun t414 => (if t414 = true then ((shutterref10_Few.f k a0_0 a0_1 l0_2 a0_3 a0_4 a0_5).bind fun t415 => (if t415 = true then (if a1 = true then (shutterlaw15_MoveRound.j0 k 2 a0_0 a0_1 l0_2 a0_3 false a0_5) else (shutterlaw15_MoveRound.j0 k 3 a0_0 a0_1 l0_2 a0_3 false a0_5)) else ((shutterlaw15_awake.f k).bind fun t416 => (some t416)))) else (none))) = some r := h
 clear h
 replace H := Option.bind_eq_some_iff.mp H
 obtain ⟨t414, A30, H⟩ := H
 replace H : (if t414 = true then ((shutterref10_Few.f k a0_0 a0_1 l0_2 a0_3 a0_4 a0_5).bind fun t415 => (if t415 = true then (if a1 = true then (shutterlaw15_MoveRound.j0 k 2 a0_0 a0_1 l0_2 a0_3 false a0_5) else (shutterlaw15_MoveRound.j0 k 3 a0_0 a0_1 l0_2 a0_3 false a0_5)) else ((shutterlaw15_awake.f k).bind fun t416 => (some t416)))) else (none)) = some r := H
 have A3 := Aside0.mk A30
 clear A30
 by_cases c4 : t414 = true
 ·subst c4
  have H1 : ((shutterref10_Few.f k a0_0 a0_1 l0_2 a0_3 a0_4 a0_5).bind fun t415 => (if t415 = true then (if a1 = true then (shutterlaw15_MoveRound.j0 k 2 a0_0 a0_1 l0_2 a0_3 false a0_5) else (shutterlaw15_MoveRound.j0 k 3 a0_0 a0_1 l0_2 a0_3 false a0_5)) else ((shutterlaw15_awake.f k).bind fun t416 => (some t416)))) = some r := by rw [if_pos rfl] at H; exact H
  clear H
  have H := H1
  clear H1
  replace H := Option.bind_eq_some_iff.mp H
  obtain ⟨t415, A50, H⟩ := H
  replace H : (if t415 = true then (if a1 = true then (shutterlaw15_MoveRound.j0 k 2 a0_0 a0_1 l0_2 a0_3 false a0_5) else (shutterlaw15_MoveRound.j0 k 3 a0_0 a0_1 l0_2 a0_3 false a0_5)) else ((shutterlaw15_awake.f k).bind fun t416 => (some t416))) = some r := H
  have A5 := Aside0.mk A50
  clear A50
  by_cases c6 : t415 = true
  ·subst c6
   have H1 : (if a1 = true then (shutterlaw15_MoveRound.j0 k 2 a0_0 a0_1 l0_2 a0_3 false a0_5) else (shutterlaw15_MoveRound.j0 k 3 a0_0 a0_1 l0_2 a0_3 false a0_5)) = some r := by rw [if_pos rfl] at H; exact H
   clear H
   have H := H1
   clear H1
   have HC7 := Aside0.mk H
   clear H
   go_enter Tryd.func7, Tryd.ntmps7
   go_upto_if 20 with (first | ((with_reducible refine gate_dst (N := 2) rfl ?_); (try (refine gate_guard (by rfl) ?_; dsimp only)); refine box_event ?hg (N := 2) ?hd (cs := #[.int .i64 a0_0, .int .i64 a0_1, .slice A0_2 l0_2.length c0_2, .int .i64 a0_3, .bool a0_4, .bool a0_5]) (t := 24) ?hr ?_; (case hd => rfl); (case hg => rfl); (case hr => first | (go_simp; done) | (go_simp; rfl)); intro gb413 hg w8 hbox hb; have n0_ := Aside0.mk (Kd.V_below (Kd.V_elderB (by (with_reducible repeat apply pV); exact HO0_2.out) gb413 (Nat.le_of_eq hg.symm)) hb); have n1_ := Aside0.mk (below_step bl_ hb); have n2_ := Aside0.mk (hbox); have n3_ := Aside0.mk ((le_new hg (below_size bl_) : w.heap.size ≤ gb413)); have n4_ := Aside0.mk ((le_new hg (below_size bl_) : w.heap.size ≤ gb413)); clear HO0_2; clear HB; have HO0_2 := n0_; have HB := n1_; have BK413 := n2_; have GW413 := n3_; have GE413 := n4_; clear n0_ n1_ n2_ n3_ n4_; clear hb hbox hg) | ((with_reducible refine gate_callee (f := 8) rfl ?_); refine goesL_ (some 11) rfl rfl Tryd.func8 (by kernel_rfl) rfl #[] rfl ag_ ?_; (with_reducible refine (shutterlaw15_awake.calls k  true _ ?sideG A3.out).mono ?_); (case sideG => exact laidG_below HG.out bl_ rfl); rintro e w9 ⟨rfl, hb⟩; refine ⟨_, rfl, ?_⟩; have n0_ := Aside0.mk (Kd.V_below (by (with_reducible repeat apply pV); exact HO0_2.out) hb); have n1_ := Aside0.mk (blk_below (g := gb413) (o := .cells #[.int .i64 a0_0, .int .i64 a0_1, .slice A0_2 l0_2.length c0_2, .int .i64 a0_3, .bool a0_4, .bool a0_5] 24 (0, 0)) (by (with_reducible repeat apply pK); exact BK413.out) hb); have n2_ := Aside0.mk (below_step bl_ hb); clear HO0_2; clear BK413; clear HB; have HO0_2 := n0_; have BK413 := n1_; have HB := n2_; clear n0_ n1_ n2_; (try clear hb); (try clear hb2); (try clear hk); (try clear hi); obtain ⟨hcz10_0, hcz10_1, hcz10_2, hcz10_3, hcz10_4, hcz10_5, hfz10_0, hfz10_1, hfz10_2, hfz10_3, hfz10_4, hfz10_5⟩ := cells6 (show w9.heap[gb413]? = some (.cells #[.int .i64 a0_0, .int .i64 a0_1, .slice A0_2 l0_2.length c0_2, .int .i64 a0_3, .bool a0_4, .bool a0_5] _ (0, 0)) from BK413.out)) | (go_at_call 9; (with_reducible refine (shutterref10_Few.calls k a0_0 a0_1 _ _ l0_2 a0_3 a0_4 a0_5 true _ ?side1 ?side2 A5.out).mono ?_); (case side1 => repeat (first | exact (Kd.V_reads' HO0_2.out).2.2 | (with_reducible apply pC))); (case side2 => exact (Kd.V_reads' HO0_2.out).2.1); rintro e w11 ⟨rfl, hb⟩; have n0_ := Aside0.mk (Kd.V_below (by (with_reducible repeat apply pV); exact HO0_2.out) hb); have n1_ := Aside0.mk (blk_below (g := gb413) (o := .cells #[.int .i64 a0_0, .int .i64 a0_1, .slice A0_2 l0_2.length c0_2, .int .i64 a0_3, .bool a0_4, .bool a0_5] 24 (0, 0)) (by (with_reducible repeat apply pK); exact BK413.out) hb); have n2_ := Aside0.mk (below_step bl_ hb); clear HO0_2; clear BK413; clear HB; have HO0_2 := n0_; have BK413 := n1_; have HB := n2_; clear n0_ n1_ n2_; (try clear hb); (try clear hb2); (try clear hk); (try clear hi); obtain ⟨hcz12_0, hcz12_1, hcz12_2, hcz12_3, hcz12_4, hcz12_5, hfz12_0, hfz12_1, hfz12_2, hfz12_3, hfz12_4, hfz12_5⟩ := cells6 (show w11.heap[gb413]? = some (.cells #[.int .i64 a0_0, .int .i64 a0_1, .slice A0_2 l0_2.length c0_2, .int .i64 a0_3, .bool a0_4, .bool a0_5] _ (0, 0)) from BK413.out)))
   (try simp only [Act.put, List.setIfInBounds_toArray, List.set_cons_zero, List.set_cons_succ])
   go_cut [5] (fun v5 wc => ∃ (kq : Nat) (x5_6 : Int), v5 = .int .i64 x5_6 ∧ Aside0 (shutterlaw15_MoveRound.j0 kq x5_6 a0_0 a0_1 l0_2 a0_3 false a0_5 = some r) ∧ Aside0 (kq ≤ k) ∧ Aside0 (Kd.V k44 44 wc w.heap.size (fun k_ => (P0_2_ k_ ∨ w.heap.size ≤ k_) ∧ k_ ≠ gb413) (.slice A0_2 l0_2.length c0_2) l0_2) ∧ Aside0 (wc.heap[gb413]? = some (.cells #[.int .i64 a0_0, .int .i64 a0_1, (.slice A0_2 l0_2.length c0_2), .int .i64 a0_3, .bool false, .bool a0_5] 24 (0, 0))) ∧ Aside0 (Below w.heap.size w wc))
   case first =>
    have H := HC7.out
    clear HC7
    by_cases c13 : a1 = true
    ·subst c13
     have H1 : (shutterlaw15_MoveRound.j0 k 2 a0_0 a0_1 l0_2 a0_3 false a0_5) = some r := by rw [if_pos rfl] at H; exact H
     clear H
     have H := H1
     clear H1
     have H' := Aside0.mk H
     clear H
     go_wp2
     go_meet
     case rel => exact ⟨_, (2), (by first | rfl | (simp; done) | (simp [*]; done)), H', ⟨by first | omega | exact Nat.le_refl _⟩, ⟨by (with_reducible repeat apply pV); exact Kd.V_mono (Kd.V_far (p := ⟨gb413, 4, none⟩) (Kd.V_mono HO0_2.out (fun k_ hk => (⟨hk, hk.2⟩ : _ ∧ k_ ≠ gb413))) (fun _ hk => hk.2) (.bool false)) (fun _ hk => ⟨hk.1.1, hk.1.2⟩)⟩, ⟨by (with_reducible repeat apply pK); refine blk_put (cs := #[.int .i64 a0_0, .int .i64 a0_1, .slice A0_2 l0_2.length c0_2, .int .i64 a0_3, .bool a0_4, .bool a0_5]) ?_ 4 _ rfl; (with_reducible repeat apply pK); exact BK413.out⟩, ⟨bl_⟩⟩
    ·replace c13 := Bool.eq_false_iff.mpr c13
     subst c13
     have H1 : (shutterlaw15_MoveRound.j0 k 3 a0_0 a0_1 l0_2 a0_3 false a0_5) = some r := by rw [if_neg (show ¬ (false = true) by decide)] at H; exact H
     clear H
     have H := H1
     clear H1
     have H' := Aside0.mk H
     clear H
     go_wp2
     go_meet
     case rel => exact ⟨_, (3), (by first | rfl | (simp; done) | (simp [*]; done)), H', ⟨by first | omega | exact Nat.le_refl _⟩, ⟨by (with_reducible repeat apply pV); exact Kd.V_mono (Kd.V_far (p := ⟨gb413, 4, none⟩) (Kd.V_mono HO0_2.out (fun k_ hk => (⟨hk, hk.2⟩ : _ ∧ k_ ≠ gb413))) (fun _ hk => hk.2) (.bool false)) (fun _ hk => ⟨hk.1.1, hk.1.2⟩)⟩, ⟨by (with_reducible repeat apply pK); refine blk_put (cs := #[.int .i64 a0_0, .int .i64 a0_1, .slice A0_2 l0_2.length c0_2, .int .i64 a0_3, .bool a0_4, .bool a0_5]) ?_ 4 _ rfl; (with_reducible repeat apply pK); exact BK413.out⟩, ⟨bl_⟩⟩
   case rest =>
    clear HC7
    try clear c1
    try clear p2
    try clear c4
    try clear c6
    try clear c7
    try clear c8
    try clear c13
    try clear hcz10_0
    try clear hcz10_1
    try clear hcz10_2
    try clear hcz10_3
    try clear hcz10_4
    try clear hcz10_5
    try clear hcz12_0
    try clear hcz12_1
    try clear hcz12_2
    try clear hcz12_3
    try clear hcz12_4
    try clear hcz12_5
    try clear hfz10_0
    try clear hfz10_1
    try clear hfz10_2
    try clear hfz10_3
    try clear hfz10_4
    try clear hfz10_5
    try clear hfz12_0
    try clear hfz12_1
    try clear hfz12_2
    try clear hfz12_3
    try clear hfz12_4
    try clear hfz12_5
    obtain ⟨kq, x5_6, rfl, HA, HJ6, HO_414002, BK413, HB⟩ := hcut
    cases kq with
    | zero => exact absurd HA.out (by simp [shutterlaw15_MoveRound.j0])
    | succ kj6 =>
     have H := HA.out
     clear HA
     simp only [shutterlaw15_MoveRound.j0] at H
     by_cases c14 : 0 ≤ (l0_2.length : Int)
     ·rw [if_pos c14] at H
      have c14b0 := eq_true c14
      have c14b1 : decide (0 ≤ (l0_2.length : Int)) = true := decide_eq_true c14
      clear c14
      by_cases c15 : ((l0_2.length : Int) : Int).toNat ≤ 281474976710656
      ·rw [if_pos c15] at H
       have c15b0 := eq_true c15
       have c15b1 : decide (((l0_2.length : Int) : Int).toNat ≤ 281474976710656) = true := decide_eq_true c15
       clear c15
       obtain ⟨y417, hy417⟩ : ∃ y_ : List Bool, y_ = (List.replicate ((l0_2.length : Int) : Int).toNat false) := ⟨_, rfl⟩
       replace H : (shutterlaw15_MoveRound.l0 kj6 x5_6 y417 0 a0_0 a0_1 l0_2 a0_3 false a0_5 a0_0 a0_1 l0_2 a0_3 false a0_5) = some r := by first | (rw [hy417]; with_reducible exact H) | (have H2_ := (Option.bind_some _ _).symm.trans H; rw [hy417]; with_reducible exact H2_) | (have H2_ := (Option.bind_some _ _).symm.trans H; with_reducible exact H2_) | with_reducible exact H | (rw [hy417]; exact H) | exact H
       have Ny417 := Aside0.mk hy417
       clear hy417
       have H' := Aside0.mk H
       clear H
       obtain ⟨hcz16_0, hcz16_1, hcz16_2, hcz16_3, hcz16_4, hcz16_5, hfz16_0, hfz16_1, hfz16_2, hfz16_3, hfz16_4, hfz16_5⟩ := cells6 (show wc.heap[gb413]? = some (.cells #[.int .i64 a0_0, .int .i64 a0_1, .slice A0_2 l0_2.length c0_2, .int .i64 a0_3, .bool false, .bool a0_5] _ (0, 0)) from BK413.out)
       go_wp2_with (first | ((with_reducible refine gate_dst (N := 24) rfl ?_); (try (refine gate_guard (by rfl) ?_; dsimp only)); refine Kd.R_make Kd.bool _ 4 rfl (N := 24) rfl 45 _ _ rfl (l0_2.length : Int) rfl rfl Tryd.underlying45 (.bool false) 1 info4 rfl (by decide) (by omega) false (ok := fun _ => True) (okp := fun _ => True) rfl (fun _ hk => hk) trivial (of_decide_eq_true (by first | (with_reducible assumption) | assumption)) (Nat.le_trans (Nat.mul_le_mul_right _ (of_decide_eq_true (by first | (with_reducible assumption) | assumption) : (l0_2.length : Int).toNat ≤ 281474976710656)) (by omega)) (Below.refl _ _) (Nat.le_refl _) ?_; intro v418 w17 ho18 hb hg_ hnew_; clear hg_ hnew_; (first | rw [← Ny417.out] at ho18 | (simp only [Int.reduceToNat] at ho18; rw [← Ny417.out] at ho18)); have n0_ := Aside0.mk (Kd.V_elder' (by (with_reducible repeat apply pV); exact HO_414002.out) (Kd.R_base ho18) hb); have n1_ := Aside0.mk (Kd.R_lower (Kd.R_newM (M := fun k_ => (w.heap.size ≤ k_)) ho18 (below_size bl_) (fun k_ h_ => h_)) (below_size bl_)); have n2_ := Aside0.mk (blk_below (g := gb413) (o := .cells #[.int .i64 a0_0, .int .i64 a0_1, .slice A0_2 l0_2.length c0_2, .int .i64 a0_3, .bool false, .bool a0_5] 24 (0, 0)) (by (with_reducible repeat apply pK); exact BK413.out) hb); have n3_ := Aside0.mk (below_step bl_ hb); clear HO_414002; clear BK413; clear HB; have HO_414002 := n0_; have HO419 := n1_; have BK413 := n2_; have HB := n3_; clear n0_ n1_ n2_ n3_; clear hb ho18; obtain ⟨hcz19_0, hcz19_1, hcz19_2, hcz19_3, hcz19_4, hcz19_5, hfz19_0, hfz19_1, hfz19_2, hfz19_3, hfz19_4, hfz19_5⟩ := cells6 (show w17.heap[gb413]? = some (.cells #[.int .i64 a0_0, .int .i64 a0_1, .slice A0_2 l0_2.length c0_2, .int .i64 a0_3, .bool false, .bool a0_5] _ (0, 0)) from BK413.out)) | ((with_reducible refine gate_dst (N := 7) rfl ?_); (try (refine gate_guard (by rfl) ?_; dsimp only)); refine box_event ?hg (N := 7) ?hd (cs := #[.int .i64 0, .int .i64 0, .slice none 0 0, .int .i64 0, .bool false, .bool false]) (t := 24) ?hr ?_; (case hd => rfl); (case hg => rfl); (case hr => first | (go_simp; done) | (go_simp; rfl)); intro gb420 hg w20 hbox hb; have n0_ := Aside0.mk (Kd.V_below (Kd.V_elderB (by (with_reducible repeat apply pV); exact HO_414002.out) gb420 (Nat.le_of_eq hg.symm)) hb); have n1_ := Aside0.mk (Kd.R_below (by (with_reducible repeat apply pR); exact HO419.out) hb); have n2_ := Aside0.mk (blk_below (g := gb413) (o := .cells #[.int .i64 a0_0, .int .i64 a0_1, .slice A0_2 l0_2.length c0_2, .int .i64 a0_3, .bool false, .bool a0_5] 24 (0, 0)) (by (with_reducible repeat apply pK); exact BK413.out) hb); have n3_ := Aside0.mk (below_step bl_ hb); have n4_ := Aside0.mk (hbox); have n5_ := Aside0.mk ((le_new hg (below_size bl_) : w.heap.size ≤ gb420)); have n6_ := Aside0.mk ((le_new hg (below_size bl_) : w.heap.size ≤ gb420)); have n7_ := Aside0.mk ((by rw [hg]; exact Nat.ne_of_lt (blk_lt (g := gb413) (o := .cells #[.int .i64 a0_0, .int .i64 a0_1, .slice A0_2 l0_2.length c0_2, .int .i64 a0_3, .bool false, .bool a0_5] 24 (0, 0)) (by (with_reducible repeat apply pK); exact BK413.out)) : gb413 ≠ gb420)); have n8_ := Aside0.mk ((by rw [hg]; exact Nat.ne_of_gt (blk_lt (g := gb413) (o := .cells #[.int .i64 a0_0, .int .i64 a0_1, .slice A0_2 l0_2.length c0_2, .int .i64 a0_3, .bool false, .bool a0_5] 24 (0, 0)) (by (with_reducible repeat apply pK); exact BK413.out)) : gb420 ≠ gb413)); clear HO_414002; clear HO419; clear BK413; clear HB; have HO_414002 := n0_; have HO419 := n1_; have BK413 := n2_; have HB := n3_; have BK420 := n4_; have GW420 := n5_; have GE420 := n6_; have NB413_420 := n7_; have NB420_413 := n8_; clear n0_ n1_ n2_ n3_ n4_ n5_ n6_ n7_ n8_; clear hb hbox hg; have hnb21 := NB420_413.out; have hnc21 := NB413_420.out; obtain ⟨hcz22_0, hcz22_1, hcz22_2, hcz22_3, hcz22_4, hcz22_5, hfz22_0, hfz22_1, hfz22_2, hfz22_3, hfz22_4, hfz22_5⟩ := cells6 (show w20.heap[gb420]? = some (.cells #[.int .i64 0, .int .i64 0, .slice none 0 0, .int .i64 0, .bool false, .bool false] _ (0, 0)) from BK420.out)))
       go_loopg [8] kj6 (fun kq v8 w' => ∃ (x6_2 : List Bool) (x8_2 : Int) (x421000_2 : Int) (x421001_2 : Int) (x421002_2 : List (S44)) (x421003_2 : Int) (x421004_2 : Bool) (x421005_2 : Bool) (u421002 : Value), v8 = .int .i64 x8_2 ∧ Aside0 (shutterlaw15_MoveRound.l0 kq x5_6 x6_2 x8_2 a0_0 a0_1 l0_2 a0_3 false a0_5 x421000_2 x421001_2 x421002_2 x421003_2 x421004_2 x421005_2 = some r) ∧ Aside0 (kq ≤ kj6) ∧ Aside0 (Kd.R Kd.bool 4 w' w.heap.size (fun k_ => (w.heap.size ≤ k_)) v418 x6_2) ∧ Aside0 (Kd.V k44 44 w' w.heap.size (fun k_ => (P0_2_ k_ ∨ w.heap.size ≤ k_) ∧ some k_ ≠ (v418 : Value).ownBlock ∧ k_ ≠ gb413 ∧ k_ ≠ gb420) (.slice A0_2 l0_2.length c0_2) l0_2) ∧ Aside0 (Kd.V k44 44 w' w.heap.size (fun k_ => (P0_2_ k_ ∨ w.heap.size ≤ k_) ∧ some k_ ≠ (v418 : Value).ownBlock ∧ k_ ≠ gb413 ∧ k_ ≠ gb420) u421002 x421002_2) ∧ Aside0 (w'.heap[gb413]? = some (.cells #[.int .i64 a0_0, .int .i64 a0_1, (.slice A0_2 l0_2.length c0_2), .int .i64 a0_3, .bool false, .bool a0_5] 24 (0, 0))) ∧ Aside0 (w'.heap[gb420]? = some (.cells #[.int .i64 x421000_2, .int .i64 x421001_2, u421002, .int .i64 x421003_2, .bool x421004_2, .bool x421005_2] 24 (0, 0))) ∧ Aside0 (Below w.heap.size w w'))
       case atStart => exact ⟨(y417), (0), (a0_0), (a0_1), (l0_2), (a0_3), (false), (a0_5), (.slice A0_2 l0_2.length c0_2), (by first | rfl | (simp; done) | (simp [*]; done)), H', ⟨Nat.le_refl _⟩, ⟨by (with_reducible repeat apply pR); exact Kd.R_mono (Kd.R_far (p := ⟨gb420, 5, none⟩) (Kd.R_far (p := ⟨gb420, 4, none⟩) (Kd.R_far (p := ⟨gb420, 3, none⟩) (Kd.R_far (p := ⟨gb420, 2, none⟩) (Kd.R_far (p := ⟨gb420, 1, none⟩) (Kd.R_far (p := ⟨gb420, 0, none⟩) (Kd.R_types HO419.out BK420.out (by decide)) (fun _ hk => hk.2) (.int .i64 a0_0)) (fun _ hk => hk.2) (.int .i64 a0_1)) (fun _ hk => hk.2) (.slice A0_2 l0_2.length c0_2)) (fun _ hk => hk.2) (.int .i64 a0_3)) (fun _ hk => hk.2) (.bool false)) (fun _ hk => hk.2) (.bool a0_5)) (fun _ hk => hk.1.1)⟩, ⟨by (with_reducible repeat apply pV); exact Kd.V_mono (Kd.V_far (p := ⟨gb420, 5, none⟩) (Kd.V_far (p := ⟨gb420, 4, none⟩) (Kd.V_far (p := ⟨gb420, 3, none⟩) (Kd.V_far (p := ⟨gb420, 2, none⟩) (Kd.V_far (p := ⟨gb420, 1, none⟩) (Kd.V_far (p := ⟨gb420, 0, none⟩) (Kd.V_mono HO_414002.out (fun k_ hk => (⟨hk, hk.2⟩ : _ ∧ k_ ≠ gb420))) (fun _ hk => hk.2) (.int .i64 a0_0)) (fun _ hk => hk.2) (.int .i64 a0_1)) (fun _ hk => hk.2) (.slice A0_2 l0_2.length c0_2)) (fun _ hk => hk.2) (.int .i64 a0_3)) (fun _ hk => hk.2) (.bool false)) (fun _ hk => hk.2) (.bool a0_5)) (fun _ hk => ⟨hk.1.1.1.1, ⟨hk.1.1.2, ⟨hk.1.1.1.2, hk.1.2⟩⟩⟩)⟩, ⟨by (with_reducible repeat apply pV); exact Kd.V_mono (Kd.V_far (p := ⟨gb420, 5, none⟩) (Kd.V_far (p := ⟨gb420, 4, none⟩) (Kd.V_far (p := ⟨gb420, 3, none⟩) (Kd.V_far (p := ⟨gb420, 2, none⟩) (Kd.V_far (p := ⟨gb420, 1, none⟩) (Kd.V_far (p := ⟨gb420, 0, none⟩) (Kd.V_mono HO_414002.out (fun k_ hk => (⟨hk, hk.2⟩ : _ ∧ k_ ≠ gb420))) (fun _ hk => hk.2) (.int .i64 a0_0)) (fun _ hk => hk.2) (.int .i64 a0_1)) (fun _ hk => hk.2) (.slice A0_2 l0_2.length c0_2)) (fun _ hk => hk.2) (.int .i64 a0_3)) (fun _ hk => hk.2) (.bool false)) (fun _ hk => hk.2) (.bool a0_5)) (fun _ hk => ⟨hk.1.1.1.1, ⟨hk.1.1.2, ⟨hk.1.1.1.2, hk.1.2⟩⟩⟩)⟩, ⟨by (with_reducible repeat apply pK); refine blk_far ?_ NB413_420.out _; (with_reducible repeat apply pK); refine blk_far ?_ NB413_420.out _; (with_reducible repeat apply pK); refine blk_far ?_ NB413_420.out _; (with_reducible repeat apply pK); refine blk_far ?_ NB413_420.out _; (with_reducible repeat apply pK); refine blk_far ?_ NB413_420.out _; (with_reducible repeat apply pK); refine blk_far ?_ NB413_420.out _; (with_reducible repeat apply pK); exact BK413.out⟩, ⟨by (with_reducible repeat apply pK); refine blk_put (cs := #[.int .i64 a0_0, .int .i64 a0_1, .slice A0_2 l0_2.length c0_2, .int .i64 a0_3, .bool false, .bool false]) ?_ 5 _ rfl; (with_reducible repeat apply pK); refine blk_put (cs := #[.int .i64 a0_0, .int .i64 a0_1, .slice A0_2 l0_2.length c0_2, .int .i64 a0_3, .bool false, .bool false]) ?_ 4 _ rfl; (with_reducible repeat apply pK); refine blk_put (cs := #[.int .i64 a0_0, .int .i64 a0_1, .slice A0_2 l0_2.length c0_2, .int .i64 0, .bool false, .bool false]) ?_ 3 _ rfl; (with_reducible repeat apply pK); refine blk_put (cs := #[.int .i64 a0_0, .int .i64 a0_1, .slice none 0 0, .int .i64 0, .bool false, .bool false]) ?_ 2 _ rfl; (with_reducible repeat apply pK); refine blk_put (cs := #[.int .i64 a0_0, .int .i64 0, .slice none 0 0, .int .i64 0, .bool false, .bool false]) ?_ 1 _ rfl; (with_reducible repeat apply pK); refine blk_put (cs := #[.int .i64 0, .int .i64 0, .slice none 0 0, .int .i64 0, .bool false, .bool false]) ?_ 0 _ rfl; (with_reducible repeat apply pK); exact BK420.out⟩, ⟨bl_⟩⟩
       case round =>
        clear H'
        try clear c1
        try clear c2
        try clear p2
        try clear c4
        try clear c6
        try clear c7
        try clear c8
        try clear c13
        try clear c14
        try clear c14b0
        try clear c14b1
        try clear c15
        try clear c15b0
        try clear c15b1
        try clear c21
        try clear hcz10_0
        try clear hcz10_1
        try clear hcz10_2
        try clear hcz10_3
        try clear hcz10_4
        try clear hcz10_5
        try clear hcz12_0
        try clear hcz12_1
        try clear hcz12_2
        try clear hcz12_3
        try clear hcz12_4
        try clear hcz12_5
        try clear hcz16_0
        try clear hcz16_1
        try clear hcz16_2
        try clear hcz16_3
        try clear hcz16_4
        try clear hcz16_5
        try clear hcz19_0
        try clear hcz19_1
        try clear hcz19_2
        try clear hcz19_3
        try clear hcz19_4
        try clear hcz19_5
        try clear hcz22_0
        try clear hcz22_1
        try clear hcz22_2
        try clear hcz22_3
        try clear hcz22_4
        try clear hcz22_5
        try clear hfz10_0
        try clear hfz10_1
        try clear hfz10_2
        try clear hfz10_3
        try clear hfz10_4
        try clear hfz10_5
        try clear hfz12_0
        try clear hfz12_1
        try clear hfz12_2
        try clear hfz12_3
        try clear hfz12_4
        try clear hfz12_5
        try clear hfz16_0
        try clear hfz16_1
        try clear hfz16_2
        try clear hfz16_3
        try clear hfz16_4
        try clear hfz16_5
        try clear hfz19_0
        try clear hfz19_1
        try clear hfz19_2
        try clear hfz19_3
        try clear hfz19_4
        try clear hfz19_5
        try clear hfz22_0
        try clear hfz22_1
        try clear hfz22_2
        try clear hfz22_3
        try clear hfz22_4
        try clear hfz22_5
        try clear p2
        obtain ⟨x6_2, x8_2, x421000_2, x421001_2, x421002_2, x421003_2, x421004_2, x421005_2, u421002, rfl, HA, HK2, HO_6, HO_414002, HO_421002, BK413, BK420, HB⟩ := hrel
        cases gk with
        | zero => exact absurd HA.out (by simp [shutterlaw15_MoveRound.l0])
        | succ k2 =>
         have H := HA.out
         clear HA
         simp only [shutterlaw15_MoveRound.l0] at H
         by_cases c23 : x8_2 < (l0_2.length : Int)
         ·rw [if_pos c23] at H
          have c23b0 : decide (x8_2 < (l0_2.length : Int)) = true := decide_eq_true c23
          clear c23
          by_cases c24 : 0 ≤ x421003_2
          ·rw [if_pos c24] at H
           have c24b0 : decide (0 ≤ x421003_2) = true := decide_eq_true c24
           clear c24
           by_cases c25 : x421003_2 < (x6_2.length : Int)
           ·rw [if_pos c25] at H
            have c25b0 : decide (x421003_2 < (x6_2.length : Int)) = true := decide_eq_true c25
            clear c25
            obtain ⟨bq26, hbq26⟩ : ∃ b_ : Bool, b_ = (rdOf false x6_2 x421003_2) := ⟨_, rfl⟩
            replace H : (if bq26 = true then (none) else ((move_Do.f k2 x421000_2 x421001_2 x421002_2 x421003_2 x421004_2 x421005_2 x5_6).bind fun bt424 => (if bt424.2.2.2.2.2.2.isNone = true then (if bt424.2.2.2.1 < 0 then (none) else (if bt424.2.2.2.1 ≥ (l0_2.length : Int) then (none) else (shutterlaw15_MoveRound.l0 k2 x5_6 (x6_2.set (x421003_2 : Int).toNat true) (wrap64 (x8_2 + 1)) a0_0 a0_1 l0_2 a0_3 false a0_5 bt424.1 bt424.2.1 bt424.2.2.1 bt424.2.2.2.1 bt424.2.2.2.2.1 bt424.2.2.2.2.2.1))) else (none)))) = some r := by rw [← hbq26] at H; exact H
            have Nbq26 := Aside0.mk hbq26
            clear hbq26
            by_cases c27 : bq26 = true
            ·subst c27
             have H1 : (none) = some r := by rw [if_pos rfl] at H; exact H
             clear H
             have H := H1
             clear H1
             exact absurd H (by simp)
            ·replace c27 := Bool.eq_false_iff.mpr c27
             subst c27
             have H1 : ((move_Do.f k2 x421000_2 x421001_2 x421002_2 x421003_2 x421004_2 x421005_2 x5_6).bind fun bt424 => (if bt424.2.2.2.2.2.2.isNone = true then (if bt424.2.2.2.1 < 0 then (none) else (if bt424.2.2.2.1 ≥ (l0_2.length : Int) then (none) else (shutterlaw15_MoveRound.l0 k2 x5_6 (x6_2.set (x421003_2 : Int).toNat true) (wrap64 (x8_2 + 1)) a0_0 a0_1 l0_2 a0_3 false a0_5 bt424.1 bt424.2.1 bt424.2.2.1 bt424.2.2.2.1 bt424.2.2.2.2.1 bt424.2.2.2.2.2.1))) else (none))) = some r := by rw [if_neg (show ¬ (false = true) by decide)] at H; exact H
             clear H
             have H := H1
             clear H1
             obtain ⟨y423, hy423⟩ : ∃ y_ : List Bool, y_ = (x6_2.set (x421003_2 : Int).toNat true) := ⟨_, rfl⟩
             replace H : ((move_Do.f k2 x421000_2 x421001_2 x421002_2 x421003_2 x421004_2 x421005_2 x5_6).bind fun bt424 => (if bt424.2.2.2.2.2.2.isNone = true then (if bt424.2.2.2.1 < 0 then (none) else (if bt424.2.2.2.1 ≥ (l0_2.length : Int) then (none) else (shutterlaw15_MoveRound.l0 k2 x5_6 y423 (wrap64 (x8_2 + 1)) a0_0 a0_1 l0_2 a0_3 false a0_5 bt424.1 bt424.2.1 bt424.2.2.1 bt424.2.2.2.1 bt424.2.2.2.2.1 bt424.2.2.2.2.2.1))) else (none))) = some r := by first | (rw [hy423]; with_reducible exact H) | (have H2_ := (Option.bind_some _ _).symm.trans H; rw [hy423]; with_reducible exact H2_) | (have H2_ := (Option.bind_some _ _).symm.trans H; with_reducible exact H2_) | with_reducible exact H | (rw [hy423]; exact H) | exact H
             have Ny423 := Aside0.mk hy423
             clear hy423
             replace H := Option.bind_eq_some_iff.mp H
             obtain ⟨⟨t424, t425, t426, t429, t430, t431, t432⟩, A290, H⟩ := H
             replace H : (if t432.isNone = true then (if t429 < 0 then (none) else (if t429 ≥ (l0_2.length : Int) then (none) else (shutterlaw15_MoveRound.l0 k2 x5_6 y423 (wrap64 (x8_2 + 1)) a0_0 a0_1 l0_2 a0_3 false a0_5 t424 t425 t426 t429 t430 t431))) else (none)) = some r := H
             have A29 := Aside0.mk A290
             clear A290
             rcases t432 with _ | q434
             ·have H1 : (if t429 < 0 then (none) else (if t429 ≥ (l0_2.length : Int) then (none) else (shutterlaw15_MoveRound.l0 k2 x5_6 y423 (wrap64 (x8_2 + 1)) a0_0 a0_1 l0_2 a0_3 false a0_5 t424 t425 t426 t429 t430 t431))) = some r := by rw [if_pos (show (none : Option Int).isNone = true by rfl)] at H; exact H
              clear H
              have H := H1
              clear H1
              try simp only [errW_none, errW_some]
              by_cases c30 : t429 < 0
              ·rw [if_pos c30] at H
               exact absurd H (by simp)
              ·rw [if_neg c30] at H
               have c30b0 : decide (t429 < 0) = false := decide_eq_false c30
               clear c30
               by_cases c31 : t429 ≥ (l0_2.length : Int)
               ·rw [if_pos c31] at H
                exact absurd H (by simp)
               ·rw [if_neg c31] at H
                have c31b0 : decide ((l0_2.length : Int) ≤ t429) = false := decide_eq_false c31
                clear c31
                have H' := Aside0.mk H
                clear H
                have hnb32 := NB413_420.out
                have hnc32 := NB420_413.out
                obtain ⟨hcz33_0, hcz33_1, hcz33_2, hcz33_3, hcz33_4, hcz33_5, hfz33_0, hfz33_1, hfz33_2, hfz33_3, hfz33_4, hfz33_5⟩ := cells6 (show wr.heap[gb413]? = some (.cells #[.int .i64 a0_0, .int .i64 a0_1, .slice A0_2 l0_2.length c0_2, .int .i64 a0_3, .bool false, .bool a0_5] _ (0, 0)) from BK413.out)
                obtain ⟨hcz34_0, hcz34_1, hcz34_2, hcz34_3, hcz34_4, hcz34_5, hfz34_0, hfz34_1, hfz34_2, hfz34_3, hfz34_4, hfz34_5⟩ := cells6 (show wr.heap[gb420]? = some (.cells #[.int .i64 x421000_2, .int .i64 x421001_2, u421002, .int .i64 x421003_2, .bool x421004_2, .bool x421005_2] _ (0, 0)) from BK420.out)
                obtain ⟨Ao35, co35, eo35⟩ := Kd.R_slice HO_6.out
                subst eo35
                have p422 : 0 ≤ (x421003_2 : Int) := of_decide_eq_true (by first | (with_reducible assumption) | assumption)
                have q422 : x421003_2 < (x6_2.length : Int) := of_decide_eq_true (by first | (with_reducible assumption) | assumption)
                obtain ⟨ad422, e422, hx422_0⟩ := Kd.at_bool (Kd.R_reads' HO_6.out).2.2 x421003_2 p422 q422
                (try rw [← Nbq26.out] at hx422_0)
                cases e422
                replace p422 := eq_true p422
                replace q422 := eq_true q422
                have p28 : 0 ≤ (x421003_2 : Int) := of_decide_eq_true (by first | (with_reducible assumption) | assumption)
                have q28 : (x421003_2 : Int) < ((x6_2.length : Int) : Int) := of_decide_eq_true (by first | (with_reducible assumption) | assumption)
                obtain ⟨go28, co28, eo28, gb28, gl28, cl28, HG28⟩ := Kd.R_form HO_6.out (by omega)
                (first | cases eo28 | (injection eo28 with ea_ en_ ec_; (first | subst ea_ | (injection ea_ with ea_; subst ea_)); subst ec_; clear en_))
                have GB28 := Aside0.mk gb28
                have GG28 := Aside0.mk HG28
                clear gb28 gl28 HG28
                (first | simp only [add_plain] at hx422_0 | skip)
                obtain ⟨hx28_0, hf28_0⟩ := Kd.R_celln false HO_6.out (x421003_2 : Int) p28 q28
                replace p28 := eq_true p28
                replace q28 := eq_true q28
                have HP36 := Kd.R_putg HO_6.out (x421003_2 : Int) true
                go_wp2_with (first | ((with_reducible refine gate_store (t := 4) (p := 41) rfl ?_); refine store_event (t := 4) (p := 41) (v := ?vo_w37) (w1 := (wr.setCell ⟨go28, (x421003_2 : Int).toNat, none⟩ (.bool true))) ?hg ?ho ?hn ?hr ?_; (case ho => rfl); (case hg => rfl); (case hn => rfl); (case hr => first | (go_simp; done) | (go_simp; rfl)); intro w37 hw; have hg : wr.grownBy w37 (some go28) := (by rw [hw]; exact HP36.2); have hp_ : Kd.R Kd.bool 4 w37 w.heap.size (fun k_ => (w.heap.size ≤ k_)) (.slice (some ⟨go28, 0, none⟩) x6_2.length co35) y423 := (by rw [hw, Ny423.out]; exact HP36.1); clear HP36; have n0_ := Aside0.mk (hp_); have n1_ := Aside0.mk (Kd.V_afterv (v := (.slice (some ⟨go28, 0, none⟩) x6_2.length co35)) (v1 := (.slice (some ⟨go28, 0, none⟩) x6_2.length co35)) (ok := (fun k_ => (P0_2_ k_ ∨ w.heap.size ≤ k_) ∧ k_ ≠ gb413 ∧ k_ ≠ gb420)) (by (with_reducible repeat apply pV); exact Kd.V_mono HO_414002.out (fun _ hk => ⟨⟨hk.1, ⟨hk.2.2.1, hk.2.2.2⟩⟩, hk.2.1⟩)) hg (.inl rfl)); have n2_ := Aside0.mk (Kd.V_afterv (v := (.slice (some ⟨go28, 0, none⟩) x6_2.length co35)) (v1 := (.slice (some ⟨go28, 0, none⟩) x6_2.length co35)) (ok := (fun k_ => (P0_2_ k_ ∨ w.heap.size ≤ k_) ∧ k_ ≠ gb413 ∧ k_ ≠ gb420)) (by (with_reducible repeat apply pV); exact Kd.V_mono HO_421002.out (fun _ hk => ⟨⟨hk.1, ⟨hk.2.2.1, hk.2.2.2⟩⟩, hk.2.1⟩)) hg (.inl rfl)); have n3_ := Aside0.mk (blk_grown (g := gb413) (o := .cells #[.int .i64 a0_0, .int .i64 a0_1, .slice A0_2 l0_2.length c0_2, .int .i64 a0_3, .bool false, .bool a0_5] 24 (0, 0)) (by (with_reducible repeat apply pK); exact BK413.out) hg (Kd.R_ne HO_6.out BK413.out (by decide))); have n4_ := Aside0.mk (blk_grown (g := gb420) (o := .cells #[.int .i64 x421000_2, .int .i64 x421001_2, u421002, .int .i64 x421003_2, .bool x421004_2, .bool x421005_2] 24 (0, 0)) (by (with_reducible repeat apply pK); exact BK420.out) hg (Kd.R_ne HO_6.out BK420.out (by decide))); have n5_ := Aside0.mk ((by rw [hw]; exact below_set (HB.out) GB28.out : Below w.heap.size w w37)); clear HO_6; clear HO_414002; clear HO_421002; clear BK413; clear BK420; clear HB; have HO_6 := n0_; have HO_414002 := n1_; have HO_421002 := n2_; have BK413 := n3_; have BK420 := n4_; have HB := n5_; clear n0_ n1_ n2_ n3_ n4_ n5_; clear hg hw hp_; obtain ⟨hcz38_0, hcz38_1, hcz38_2, hcz38_3, hcz38_4, hcz38_5, hfz38_0, hfz38_1, hfz38_2, hfz38_3, hfz38_4, hfz38_5⟩ := cells6 (show w37.heap[gb420]? = some (.cells #[.int .i64 x421000_2, .int .i64 x421001_2, u421002, .int .i64 x421003_2, .bool x421004_2, .bool x421005_2] _ (0, 0)) from BK420.out); obtain ⟨Ao39, co39, eo39⟩ := Kd.V_slice HO_421002.out; subst eo39) | ((with_reducible refine gate_callee (f := 10) rfl ?_); refine goesL_ (some 45) rfl rfl Tryd.func10 (by kernel_rfl) rfl #[.agg #[.int .i64 x421000_2, .int .i64 x421001_2, .slice Ao39 x421002_2.length co39, .int .i64 x421003_2, .bool x421004_2, .bool x421005_2], .int .i64 x5_6] rfl ag_ ?_; (with_reducible refine (move_Do.calls k2 x421000_2 x421001_2 (fun k_ => (((P0_2_ k_ ∨ w.heap.size ≤ k_) ∧ (k_ ≠ gb413 ∧ k_ ≠ gb420)) ∧ some k_ ≠ (.slice (some ⟨go28, 0, none⟩) x6_2.length co35 : Value).ownBlock)) _ _ x421002_2 x421003_2 x421004_2 x421005_2 x5_6 t424 t425 t426 t429 t430 t431 none _ ?side1 A29.out).mono ?_); (case side1 => exact HO_421002.out); rintro e w40 ⟨v427, rfl, ho0, hb⟩; refine ⟨_, rfl, ?_⟩; have n0_ := Aside0.mk (Kd.R_below (by (with_reducible repeat apply pR); exact HO_6.out) hb); have n1_ := Aside0.mk (Kd.V_below (by (with_reducible repeat apply pV); exact HO_414002.out) hb); have n2_ := Aside0.mk (Kd.V_below (by (with_reducible repeat apply pV); exact HO_421002.out) hb); have n3_ := Aside0.mk (Kd.V_lower (Kd.V_mono (ok' := fun k_ => (P0_2_ k_ ∨ w.heap.size ≤ k_) ∧ some k_ ≠ (.slice (some ⟨go28, 0, none⟩) x6_2.length co35 : Value).ownBlock ∧ k_ ≠ gb413 ∧ k_ ≠ gb420) ho0 (fun k_ hk_ => ⟨Or.elim hk_ (fun hs_ => hs_.1.1) (fun hn_ => (.inr (Nat.le_trans (below_size bl_) hn_))), Or.elim hk_ (fun hs_ => hs_.2) (fun hn_ => (Kd.fresh' (Kd.R_lt (by (with_reducible repeat apply pR); exact HO_6.out)) k_ hn_)), Or.elim hk_ (fun hs_ => hs_.1.2.1) (fun hn_ => (Kd.freshB (g := gb413) (o := .cells #[.int .i64 a0_0, .int .i64 a0_1, .slice A0_2 l0_2.length c0_2, .int .i64 a0_3, .bool false, .bool a0_5] 24 (0, 0)) (by (with_reducible repeat apply pK); exact BK413.out) k_ hn_)), Or.elim hk_ (fun hs_ => hs_.1.2.2) (fun hn_ => (Kd.freshB (g := gb420) (o := .cells #[.int .i64 x421000_2, .int .i64 x421001_2, .slice Ao39 x421002_2.length co39, .int .i64 x421003_2, .bool x421004_2, .bool x421005_2] 24 (0, 0)) (by (with_reducible repeat apply pK); exact BK420.out) k_ hn_))⟩)) (below_size bl_)); have n4_ := Aside0.mk (blk_below (g := gb413) (o := .cells #[.int .i64 a0_0, .int .i64 a0_1, .slice A0_2 l0_2.length c0_2, .int .i64 a0_3, .bool false, .bool a0_5] 24 (0, 0)) (by (with_reducible repeat apply pK); exact BK413.out) hb); have n5_ := Aside0.mk (blk_below (g := gb420) (o := .cells #[.int .i64 x421000_2, .int .i64 x421001_2, .slice Ao39 x421002_2.length co39, .int .i64 x421003_2, .bool x421004_2, .bool x421005_2] 24 (0, 0)) (by (with_reducible repeat apply pK); exact BK420.out) hb); have n6_ := Aside0.mk (below_step bl_ hb); clear HO_6; clear HO_414002; clear HO_421002; clear BK413; clear BK420; clear HB; have HO_6 := n0_; have HO_414002 := n1_; have HO_421002 := n2_; have HO428 := n3_; have BK413 := n4_; have BK420 := n5_; have HB := n6_; clear n0_ n1_ n2_ n3_ n4_ n5_ n6_; (try clear hb); (try clear hb2); (try clear hk); (try clear hi); (try clear ho0); (try simp only [errW_none, errW_some])) | ((with_reducible refine gate_dst (N := 9) rfl ?_); (try (refine gate_guard (by rfl) ?_; dsimp only)); refine box_event ?hg (N := 9) ?hd (cs := #[.int .i64 0, .int .i64 0, .slice none 0 0, .int .i64 0, .bool false, .bool false]) (t := 24) ?hr ?_; (case hd => rfl); (case hg => rfl); (case hr => first | (go_simp; done) | (go_simp; rfl)); intro gb433 hg w41 hbox hb; have n0_ := Aside0.mk (Kd.R_below (by (with_reducible repeat apply pR); exact HO_6.out) hb); have n1_ := Aside0.mk (Kd.V_below (Kd.V_elderB (by (with_reducible repeat apply pV); exact HO_414002.out) gb433 (Nat.le_of_eq hg.symm)) hb); have n2_ := Aside0.mk (Kd.V_below (Kd.V_elderB (by (with_reducible repeat apply pV); exact HO_421002.out) gb433 (Nat.le_of_eq hg.symm)) hb); have n3_ := Aside0.mk (Kd.V_below (Kd.V_elderB (by (with_reducible repeat apply pV); exact HO428.out) gb433 (Nat.le_of_eq hg.symm)) hb); have n4_ := Aside0.mk (blk_below (g := gb413) (o := .cells #[.int .i64 a0_0, .int .i64 a0_1, .slice A0_2 l0_2.length c0_2, .int .i64 a0_3, .bool false, .bool a0_5] 24 (0, 0)) (by (with_reducible repeat apply pK); exact BK413.out) hb); have n5_ := Aside0.mk (blk_below (g := gb420) (o := .cells #[.int .i64 x421000_2, .int .i64 x421001_2, .slice Ao39 x421002_2.length co39, .int .i64 x421003_2, .bool x421004_2, .bool x421005_2] 24 (0, 0)) (by (with_reducible repeat apply pK); exact BK420.out) hb); have n6_ := Aside0.mk (below_step bl_ hb); have n7_ := Aside0.mk (hbox); have n8_ := Aside0.mk ((le_new hg (below_size bl_) : w.heap.size ≤ gb433)); have n9_ := Aside0.mk ((le_new hg (below_size bl_) : w.heap.size ≤ gb433)); have n10_ := Aside0.mk ((by rw [hg]; exact Nat.ne_of_lt (blk_lt (g := gb413) (o := .cells #[.int .i64 a0_0, .int .i64 a0_1, .slice A0_2 l0_2.length c0_2, .int .i64 a0_3, .bool false, .bool a0_5] 24 (0, 0)) (by (with_reducible repeat apply pK); exact BK413.out)) : gb413 ≠ gb433)); have n11_ := Aside0.mk ((by rw [hg]; exact Nat.ne_of_gt (blk_lt (g := gb413) (o := .cells #[.int .i64 a0_0, .int .i64 a0_1, .slice A0_2 l0_2.length c0_2, .int .i64 a0_3, .bool false, .bool a0_5] 24 (0, 0)) (by (with_reducible repeat apply pK); exact BK413.out)) : gb433 ≠ gb413)); have n12_ := Aside0.mk ((by rw [hg]; exact Nat.ne_of_lt (blk_lt (g := gb420) (o := .cells #[.int .i64 x421000_2, .int .i64 x421001_2, .slice Ao39 x421002_2.length co39, .int .i64 x421003_2, .bool x421004_2, .bool x421005_2] 24 (0, 0)) (by (with_reducible repeat apply pK); exact BK420.out)) : gb420 ≠ gb433)); have n13_ := Aside0.mk ((by rw [hg]; exact Nat.ne_of_gt (blk_lt (g := gb420) (o := .cells #[.int .i64 x421000_2, .int .i64 x421001_2, .slice Ao39 x421002_2.length co39, .int .i64 x421003_2, .bool x421004_2, .bool x421005_2] 24 (0, 0)) (by (with_reducible repeat apply pK); exact BK420.out)) : gb433 ≠ gb420)); clear HO_6; clear HO_414002; clear HO_421002; clear HO428; clear BK413; clear BK420; clear HB; have HO_6 := n0_; have HO_414002 := n1_; have HO_421002 := n2_; have HO428 := n3_; have BK413 := n4_; have BK420 := n5_; have HB := n6_; have BK433 := n7_; have GW433 := n8_; have GE433 := n9_; have NB413_433 := n10_; have NB433_413 := n11_; have NB420_433 := n12_; have NB433_420 := n13_; clear n0_ n1_ n2_ n3_ n4_ n5_ n6_ n7_ n8_ n9_ n10_ n11_ n12_ n13_; clear hb hbox hg; have hnb42 := NB433_413.out; have hnc42 := NB413_433.out; have hnb43 := NB433_420.out; have hnc43 := NB420_433.out; obtain ⟨hcz44_0, hcz44_1, hcz44_2, hcz44_3, hcz44_4, hcz44_5, hfz44_0, hfz44_1, hfz44_2, hfz44_3, hfz44_4, hfz44_5⟩ := cells6 (show w41.heap[gb433]? = some (.cells #[.int .i64 0, .int .i64 0, .slice none 0 0, .int .i64 0, .bool false, .bool false] _ (0, 0)) from BK433.out); obtain ⟨Ao45, co45, eo45⟩ := Kd.V_slice HO428.out; subst eo45; obtain ⟨hcz46_0, hcz46_1, hcz46_2, hcz46_3, hcz46_4, hcz46_5, hfz46_0, hfz46_1, hfz46_2, hfz46_3, hfz46_4, hfz46_5⟩ := cells6 (show w41.heap[gb413]? = some (.cells #[.int .i64 a0_0, .int .i64 a0_1, .slice A0_2 l0_2.length c0_2, .int .i64 a0_3, .bool false, .bool a0_5] _ (0, 0)) from BK413.out); obtain ⟨hcz47_0, hcz47_1, hcz47_2, hcz47_3, hcz47_4, hcz47_5, hfz47_0, hfz47_1, hfz47_2, hfz47_3, hfz47_4, hfz47_5⟩ := cells6 (show w41.heap[gb420]? = some (.cells #[.int .i64 x421000_2, .int .i64 x421001_2, .slice Ao39 x421002_2.length co39, .int .i64 x421003_2, .bool x421004_2, .bool x421005_2] _ (0, 0)) from BK420.out)))
                go_roundg k2
                case measure => have := HJ6.out; have := HK2.out; omega
                case rel => exact ⟨(y423), (wrap64 (x8_2 + 1)), (t424), (t425), (t426), (t429), (t430), (t431), (.slice Ao45 t426.length co45), (by first | rfl | (simp; done) | (simp [*]; done)), H', ⟨by have := HJ6.out; have := HK2.out; omega⟩, ⟨by (with_reducible repeat apply pR); exact Kd.R_mono (Kd.R_far (p := ⟨gb420, 5, none⟩) (Kd.R_far (p := ⟨gb420, 4, none⟩) (Kd.R_far (p := ⟨gb420, 3, none⟩) (Kd.R_far (p := ⟨gb420, 2, none⟩) (Kd.R_far (p := ⟨gb420, 1, none⟩) (Kd.R_far (p := ⟨gb420, 0, none⟩) (Kd.R_far (p := ⟨gb433, 5, none⟩) (Kd.R_far (p := ⟨gb433, 4, none⟩) (Kd.R_far (p := ⟨gb433, 3, none⟩) (Kd.R_far (p := ⟨gb433, 2, none⟩) (Kd.R_far (p := ⟨gb433, 1, none⟩) (Kd.R_far (p := ⟨gb433, 0, none⟩) (Kd.R_types (Kd.R_types HO_6.out BK433.out (by decide)) BK420.out (by decide)) (fun _ hk => hk.1.2) (.int .i64 t424)) (fun _ hk => hk.1.2) (.int .i64 t425)) (fun _ hk => hk.1.2) (.slice Ao45 t426.length co45)) (fun _ hk => hk.1.2) (.int .i64 t429)) (fun _ hk => hk.1.2) (.bool t430)) (fun _ hk => hk.1.2) (.bool t431)) (fun _ hk => hk.2) (.int .i64 t424)) (fun _ hk => hk.2) (.int .i64 t425)) (fun _ hk => hk.2) (.slice Ao45 t426.length co45)) (fun _ hk => hk.2) (.int .i64 t429)) (fun _ hk => hk.2) (.bool t430)) (fun _ hk => hk.2) (.bool t431)) (fun _ hk => hk.1.1)⟩, ⟨by (with_reducible repeat apply pV); exact Kd.V_mono (Kd.V_far (p := ⟨gb420, 5, none⟩) (Kd.V_far (p := ⟨gb420, 4, none⟩) (Kd.V_far (p := ⟨gb420, 3, none⟩) (Kd.V_far (p := ⟨gb420, 2, none⟩) (Kd.V_far (p := ⟨gb420, 1, none⟩) (Kd.V_far (p := ⟨gb420, 0, none⟩) (Kd.V_far (p := ⟨gb433, 5, none⟩) (Kd.V_far (p := ⟨gb433, 4, none⟩) (Kd.V_far (p := ⟨gb433, 3, none⟩) (Kd.V_far (p := ⟨gb433, 2, none⟩) (Kd.V_far (p := ⟨gb433, 1, none⟩) (Kd.V_far (p := ⟨gb433, 0, none⟩) (Kd.V_mono (Kd.V_mono HO_414002.out (fun k_ hk => (⟨hk, hk.2⟩ : _ ∧ k_ ≠ gb433))) (fun k_ hk => (⟨hk, hk.1.1.1.2.2⟩ : _ ∧ k_ ≠ gb420))) (fun _ hk => hk.1.2) (.int .i64 t424)) (fun _ hk => hk.1.2) (.int .i64 t425)) (fun _ hk => hk.1.2) (.slice Ao45 t426.length co45)) (fun _ hk => hk.1.2) (.int .i64 t429)) (fun _ hk => hk.1.2) (.bool t430)) (fun _ hk => hk.1.2) (.bool t431)) (fun _ hk => hk.2) (.int .i64 t424)) (fun _ hk => hk.2) (.int .i64 t425)) (fun _ hk => hk.2) (.slice Ao45 t426.length co45)) (fun _ hk => hk.2) (.int .i64 t429)) (fun _ hk => hk.2) (.bool t430)) (fun _ hk => hk.2) (.bool t431)) (fun _ hk => ⟨hk.1.1.1.1.1, ⟨hk.1.1.1.2, ⟨hk.1.1.1.1.2.1, hk.1.1.1.1.2.2⟩⟩⟩)⟩, ⟨by (with_reducible repeat apply pV); exact Kd.V_mono (Kd.V_far (p := ⟨gb420, 5, none⟩) (Kd.V_far (p := ⟨gb420, 4, none⟩) (Kd.V_far (p := ⟨gb420, 3, none⟩) (Kd.V_far (p := ⟨gb420, 2, none⟩) (Kd.V_far (p := ⟨gb420, 1, none⟩) (Kd.V_far (p := ⟨gb420, 0, none⟩) (Kd.V_far (p := ⟨gb433, 5, none⟩) (Kd.V_far (p := ⟨gb433, 4, none⟩) (Kd.V_far (p := ⟨gb433, 3, none⟩) (Kd.V_far (p := ⟨gb433, 2, none⟩) (Kd.V_far (p := ⟨gb433, 1, none⟩) (Kd.V_far (p := ⟨gb433, 0, none⟩) (Kd.V_mono (Kd.V_mono HO428.out (fun k_ hk => (⟨hk, hk.2⟩ : _ ∧ k_ ≠ gb433))) (fun k_ hk => (⟨hk, hk.1.1.2.2.2⟩ : _ ∧ k_ ≠ gb420))) (fun _ hk => hk.1.2) (.int .i64 t424)) (fun _ hk => hk.1.2) (.int .i64 t425)) (fun _ hk => hk.1.2) (.slice Ao45 t426.length co45)) (fun _ hk => hk.1.2) (.int .i64 t429)) (fun _ hk => hk.1.2) (.bool t430)) (fun _ hk => hk.1.2) (.bool t431)) (fun _ hk => hk.2) (.int .i64 t424)) (fun _ hk => hk.2) (.int .i64 t425)) (fun _ hk => hk.2) (.slice Ao45 t426.length co45)) (fun _ hk => hk.2) (.int .i64 t429)) (fun _ hk => hk.2) (.bool t430)) (fun _ hk => hk.2) (.bool t431)) (fun _ hk => ⟨hk.1.1.1.1, ⟨hk.1.1.1.2.1, ⟨hk.1.1.1.2.2.1, hk.1.1.1.2.2.2⟩⟩⟩)⟩, ⟨by (with_reducible repeat apply pK); refine blk_far ?_ NB413_420.out _; (with_reducible repeat apply pK); refine blk_far ?_ NB413_420.out _; (with_reducible repeat apply pK); refine blk_far ?_ NB413_420.out _; (with_reducible repeat apply pK); refine blk_far ?_ NB413_420.out _; (with_reducible repeat apply pK); refine blk_far ?_ NB413_420.out _; (with_reducible repeat apply pK); refine blk_far ?_ NB413_420.out _; (with_reducible repeat apply pK); refine blk_far ?_ NB413_433.out _; (with_reducible repeat apply pK); refine blk_far ?_ NB413_433.out _; (with_reducible repeat apply pK); refine blk_far ?_ NB413_433.out _; (with_reducible repeat apply pK); refine blk_far ?_ NB413_433.out _; (with_reducible repeat apply pK); refine blk_far ?_ NB413_433.out _; (with_reducible repeat apply pK); refine blk_far ?_ NB413_433.out _; (with_reducible repeat apply pK); exact BK413.out⟩, ⟨by (with_reducible repeat apply pK); refine blk_put (cs := #[.int .i64 t424, .int .i64 t425, .slice Ao45 t426.length co45, .int .i64 t429, .bool t430, .bool x421005_2]) ?_ 5 _ rfl; (with_reducible repeat apply pK); refine blk_put (cs := #[.int .i64 t424, .int .i64 t425, .slice Ao45 t426.length co45, .int .i64 t429, .bool x421004_2, .bool x421005_2]) ?_ 4 _ rfl; (with_reducible repeat apply pK); refine blk_put (cs := #[.int .i64 t424, .int .i64 t425, .slice Ao45 t426.length co45, .int .i64 x421003_2, .bool x421004_2, .bool x421005_2]) ?_ 3 _ rfl; (with_reducible repeat apply pK); refine blk_put (cs := #[.int .i64 t424, .int .i64 t425, .slice Ao39 x421002_2.length co39, .int .i64 x421003_2, .bool x421004_2, .bool x421005_2]) ?_ 2 _ rfl; (with_reducible repeat apply pK); refine blk_put (cs := #[.int .i64 t424, .int .i64 x421001_2, .slice Ao39 x421002_2.length co39, .int .i64 x421003_2, .bool x421004_2, .bool x421005_2]) ?_ 1 _ rfl; (with_reducible repeat apply pK); refine blk_put (cs := #[.int .i64 x421000_2, .int .i64 x421001_2, .slice Ao39 x421002_2.length co39, .int .i64 x421003_2, .bool x421004_2, .bool x421005_2]) ?_ 0 _ rfl; (with_reducible repeat apply pK); refine blk_far ?_ NB420_433.out _; (with_reducible repeat apply pK); refine blk_far ?_ NB420_433.out _; (with_reducible repeat apply pK); refine blk_far ?_ NB420_433.out _; (with_reducible repeat apply pK); refine blk_far ?_ NB420_433.out _; (with_reducible repeat apply pK); refine blk_far ?_ NB420_433.out _; (with_reducible repeat apply pK); refine blk_far ?_ NB420_433.out _; (with_reducible repeat apply pK); exact BK420.out⟩, ⟨bl_⟩⟩
             ·have H1 : (none) = some r := by rw [if_neg (show ¬ (some q434).isNone = true by simp)] at H; exact H
              clear H
              have H := H1
              clear H1
              try simp only [errW_none, errW_some]
              exact absurd H (by simp)
           ·rw [if_neg c25] at H
            exact absurd H (by simp)
          ·rw [if_neg c24] at H
           exact absurd H (by simp)
         ·rw [if_neg c23] at H
          have c23b0 : decide (x8_2 < (l0_2.length : Int)) = false := decide_eq_false c23
          clear c23
          replace H := Option.bind_eq_some_iff.mp H
          obtain ⟨t421, A480, H⟩ := H
          replace H : (some t421) = some r := H
          have A48 := Aside0.mk A480
          clear A480
          obtain rfl := Option.some.inj H
          have hnb49 := NB413_420.out
          have hnc49 := NB420_413.out
          obtain ⟨hcz50_0, hcz50_1, hcz50_2, hcz50_3, hcz50_4, hcz50_5, hfz50_0, hfz50_1, hfz50_2, hfz50_3, hfz50_4, hfz50_5⟩ := cells6 (show wr.heap[gb413]? = some (.cells #[.int .i64 a0_0, .int .i64 a0_1, .slice A0_2 l0_2.length c0_2, .int .i64 a0_3, .bool false, .bool a0_5] _ (0, 0)) from BK413.out)
          obtain ⟨hcz51_0, hcz51_1, hcz51_2, hcz51_3, hcz51_4, hcz51_5, hfz51_0, hfz51_1, hfz51_2, hfz51_3, hfz51_4, hfz51_5⟩ := cells6 (show wr.heap[gb420]? = some (.cells #[.int .i64 x421000_2, .int .i64 x421001_2, u421002, .int .i64 x421003_2, .bool x421004_2, .bool x421005_2] _ (0, 0)) from BK420.out)
          obtain ⟨Ao52, co52, eo52⟩ := Kd.V_slice HO_421002.out
          subst eo52
          go_wp2_with (first | ((with_reducible refine gate_callee (f := 12) rfl ?_); refine goesL_ (some 66) rfl rfl Tryd.func12 (by kernel_rfl) rfl #[.agg #[.int .i64 x421000_2, .int .i64 x421001_2, .slice Ao52 x421002_2.length co52, .int .i64 x421003_2, .bool x421004_2, .bool x421005_2], .agg #[.int .i64 a0_0, .int .i64 a0_1, .slice A0_2 l0_2.length c0_2, .int .i64 a0_3, .bool false, .bool a0_5]] rfl ag_ ?_; (with_reducible refine (shutterref10_Same.calls k2 x421000_2 x421001_2 _ _ x421002_2 x421003_2 x421004_2 x421005_2 a0_0 a0_1 _ _ l0_2 a0_3 false a0_5 t421 _ ?side1 ?side2 ?side3 ?side4 A48.out).mono ?_); (case side1 => repeat (first | exact (Kd.V_reads' HO_421002.out).2.2 | (with_reducible apply pC))); (case side2 => exact (Kd.V_reads' HO_421002.out).2.1); (case side3 => repeat (first | exact (Kd.V_reads' HO_414002.out).2.2 | (with_reducible apply pC))); (case side4 => exact (Kd.V_reads' HO_414002.out).2.1); rintro e w53 ⟨rfl, hb⟩; refine ⟨_, rfl, ?_⟩; have n0_ := Aside0.mk (Kd.R_below (by (with_reducible repeat apply pR); exact HO_6.out) hb); have n1_ := Aside0.mk (Kd.V_below (by (with_reducible repeat apply pV); exact HO_414002.out) hb); have n2_ := Aside0.mk (Kd.V_below (by (with_reducible repeat apply pV); exact HO_421002.out) hb); have n3_ := Aside0.mk (blk_below (g := gb413) (o := .cells #[.int .i64 a0_0, .int .i64 a0_1, .slice A0_2 l0_2.length c0_2, .int .i64 a0_3, .bool false, .bool a0_5] 24 (0, 0)) (by (with_reducible repeat apply pK); exact BK413.out) hb); have n4_ := Aside0.mk (blk_below (g := gb420) (o := .cells #[.int .i64 x421000_2, .int .i64 x421001_2, .slice Ao52 x421002_2.length co52, .int .i64 x421003_2, .bool x421004_2, .bool x421005_2] 24 (0, 0)) (by (with_reducible repeat apply pK); exact BK420.out) hb); have n5_ := Aside0.mk (below_step bl_ hb); clear HO_6; clear HO_414002; clear HO_421002; clear BK413; clear BK420; clear HB; have HO_6 := n0_; have HO_414002 := n1_; have HO_421002 := n2_; have BK413 := n3_; have BK420 := n4_; have HB := n5_; clear n0_ n1_ n2_ n3_ n4_ n5_; (try clear hb); (try clear hb2); (try clear hk); (try clear hi)))
          go_ret
          exact ⟨by first | rfl | (simp [errW_none, errW_some] <;> rfl) | (simp [*, errW_none, errW_some] <;> rfl), bl_⟩
      ·rw [if_neg c15] at H
       exact absurd H (by simp)
     ·rw [if_neg c14] at H
      exact absurd H (by simp)
  ·replace c6 := Bool.eq_false_iff.mpr c6
   subst c6
   have H1 : ((shutterlaw15_awake.f k).bind fun t416 => (some t416)) = some r := by rw [if_neg (show ¬ (false = true) by decide)] at H; exact H
   clear H
   have H := H1
   clear H1
   replace H := Option.bind_eq_some_iff.mp H
   obtain ⟨t416, A540, H⟩ := H
   replace H : (some t416) = some r := H
   have A54 := Aside0.mk A540
   clear A540
   obtain rfl := Option.some.inj H
   go_enter Tryd.func7, Tryd.ntmps7
   go_wp2_with (first | ((with_reducible refine gate_dst (N := 2) rfl ?_); (try (refine gate_guard (by rfl) ?_; dsimp only)); refine box_event ?hg (N := 2) ?hd (cs := #[.int .i64 a0_0, .int .i64 a0_1, .slice A0_2 l0_2.length c0_2, .int .i64 a0_3, .bool a0_4, .bool a0_5]) (t := 24) ?hr ?_; (case hd => rfl); (case hg => rfl); (case hr => first | (go_simp; done) | (go_simp; rfl)); intro gb413 hg w55 hbox hb; have n0_ := Aside0.mk (Kd.V_below (Kd.V_elderB (by (with_reducible repeat apply pV); exact HO0_2.out) gb413 (Nat.le_of_eq hg.symm)) hb); have n1_ := Aside0.mk (below_step bl_ hb); have n2_ := Aside0.mk (hbox); have n3_ := Aside0.mk ((le_new hg (below_size bl_) : w.heap.size ≤ gb413)); have n4_ := Aside0.mk ((le_new hg (below_size bl_) : w.heap.size ≤ gb413)); clear HO0_2; clear HB; have HO0_2 := n0_; have HB := n1_; have BK413 := n2_; have GW413 := n3_; have GE413 := n4_; clear n0_ n1_ n2_ n3_ n4_; clear hb hbox hg) | ((with_reducible refine gate_callee (f := 8) rfl ?_); refine goesL_ (some 11) rfl rfl Tryd.func8 (by kernel_rfl) rfl #[] rfl ag_ ?_; (with_reducible refine (shutterlaw15_awake.calls k  true _ ?sideG A3.out).mono ?_); (case sideG => exact laidG_below HG.out bl_ rfl); rintro e w56 ⟨rfl, hb⟩; refine ⟨_, rfl, ?_⟩; have n0_ := Aside0.mk (Kd.V_below (by (with_reducible repeat apply pV); exact HO0_2.out) hb); have n1_ := Aside0.mk (blk_below (g := gb413) (o := .cells #[.int .i64 a0_0, .int .i64 a0_1, .slice A0_2 l0_2.length c0_2, .int .i64 a0_3, .bool a0_4, .bool a0_5] 24 (0, 0)) (by (with_reducible repeat apply pK); exact BK413.out) hb); have n2_ := Aside0.mk (below_step bl_ hb); clear HO0_2; clear BK413; clear HB; have HO0_2 := n0_; have BK413 := n1_; have HB := n2_; clear n0_ n1_ n2_; (try clear hb); (try clear hb2); (try clear hk); (try clear hi); obtain ⟨hcz57_0, hcz57_1, hcz57_2, hcz57_3, hcz57_4, hcz57_5, hfz57_0, hfz57_1, hfz57_2, hfz57_3, hfz57_4, hfz57_5⟩ := cells6 (show w56.heap[gb413]? = some (.cells #[.int .i64 a0_0, .int .i64 a0_1, .slice A0_2 l0_2.length c0_2, .int .i64 a0_3, .bool a0_4, .bool a0_5] _ (0, 0)) from BK413.out)) | (go_at_call 9; (with_reducible refine (shutterref10_Few.calls k a0_0 a0_1 _ _ l0_2 a0_3 a0_4 a0_5 false _ ?side1 ?side2 A5.out).mono ?_); (case side1 => repeat (first | exact (Kd.V_reads' HO0_2.out).2.2 | (with_reducible apply pC))); (case side2 => exact (Kd.V_reads' HO0_2.out).2.1); rintro e w58 ⟨rfl, hb⟩; have n0_ := Aside0.mk (Kd.V_below (by (with_reducible repeat apply pV); exact HO0_2.out) hb); have n1_ := Aside0.mk (blk_below (g := gb413) (o := .cells #[.int .i64 a0_0, .int .i64 a0_1, .slice A0_2 l0_2.length c0_2, .int .i64 a0_3, .bool a0_4, .bool a0_5] 24 (0, 0)) (by (with_reducible repeat apply pK); exact BK413.out) hb); have n2_ := Aside0.mk (below_step bl_ hb); clear HO0_2; clear BK413; clear HB; have HO0_2 := n0_; have BK413 := n1_; have HB := n2_; clear n0_ n1_ n2_; (try clear hb); (try clear hb2); (try clear hk); (try clear hi)) | ((with_reducible refine gate_callee (f := 8) rfl ?_); refine goesL_ (some 18) rfl rfl Tryd.func8 (by kernel_rfl) rfl #[] rfl ag_ ?_; (with_reducible refine (shutterlaw15_awake.calls k  t416 _ ?sideG A54.out).mono ?_); (case sideG => exact laidG_below HG.out bl_ rfl); rintro e w59 ⟨rfl, hb⟩; refine ⟨_, rfl, ?_⟩; have n0_ := Aside0.mk (Kd.V_below (by (with_reducible repeat apply pV); exact HO0_2.out) hb); have n1_ := Aside0.mk (blk_below (g := gb413) (o := .cells #[.int .i64 a0_0, .int .i64 a0_1, .slice A0_2 l0_2.length c0_2, .int .i64 a0_3, .bool a0_4, .bool a0_5] 24 (0, 0)) (by (with_reducible repeat apply pK); exact BK413.out) hb); have n2_ := Aside0.mk (below_step bl_ hb); clear HO0_2; clear BK413; clear HB; have HO0_2 := n0_; have BK413 := n1_; have HB := n2_; clear n0_ n1_ n2_; (try clear hb); (try clear hb2); (try clear hk); (try clear hi)))
   go_ret
   exact ⟨by first | rfl | (simp [errW_none, errW_some] <;> rfl) | (simp [*, errW_none, errW_some] <;> rfl), bl_⟩
 ·replace c4 := Bool.eq_false_iff.mpr c4
  subst c4
  have H1 : (none) = some r := by rw [if_neg (show ¬ (false = true) by decide)] at H; exact H
  clear H
  have H := H1
  clear H1
  exact absurd H (by simp)

end Go.Proofs.YtapcfcagjlmgjaaDoor.P
