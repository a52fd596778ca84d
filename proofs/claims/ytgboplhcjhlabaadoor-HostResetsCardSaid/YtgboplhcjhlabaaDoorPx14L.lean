/- pp.py and press2.py (wip/tools) wrote this text. -/
import Derived.Test.YtgboplhcjhlabaaDoorPx0
import Derived.Test.YtgboplhcjhlabaaDoorPxS
import Derived.Test.YtgboplhcjhlabaaDoorPx4
import Derived.Test.YtgboplhcjhlabaaDoorPx5
import Derived.Test.YtgboplhcjhlabaaDoorPx6
import Derived.Test.YtgboplhcjhlabaaDoorPx7
import Derived.Test.YtgboplhcjhlabaaDoorPx13
import Derived.Test.YtgboplhcjhlabaaDoorPx13L
namespace Go.Proofs.YtgboplhcjhlabaaDoor.P
open Go.RowKit Go.Proofs.YtgboplhcjhlabaaDoorW.PrintWords Go.Proofs.YtgboplhcjhlabaaDoorW.PrintLast Go.Proofs.YtgboplhcjhlabaaDoorW.PrintMore
attribute [local go_sem] max2_int min2_int max_two min_two max_three min_three max_four min_four
attribute [local go_sem] Instr.field asAgg
set_option linter.unusedVariables false
set_option linter.unusedSimpArgs false

/-! ### shutterlaw13_HostResets: function 8 -/
def shutterlaw13_HostResets.f (k : Nat) (c : Int) (d : Int) (i : List (S44)) (e : Int) (g : Bool) (h : Bool) (a1 : Bool) : Option (Bool) := (shutterlaw13_awake.f k).bind fun j => (if j = true then ((shutterref10_Few.f k c d i e g h).bind fun l => (if l = true then ((host_Reset.f c d i e g h a1).bind fun a => ((shutterref13_Reset.f k c d i e g h a1).bind fun b => ((shutterref10_Same.f k a.1 a.2.1 a.2.2.1 a.2.2.2.1 a.2.2.2.2.1 a.2.2.2.2.2 b.1 b.2.1 b.2.2.1 b.2.2.2.1 b.2.2.2.2.1 b.2.2.2.2.2).bind fun m => (some m)))) else ((shutterlaw13_awake.f k).bind fun n => (some n)))) else (none))
theorem shutterlaw13_HostResets.mono : ∀ a0 a1 a b a4 c d k, LeO (shutterlaw13_HostResets.f k a0 a1 a b a4 c d) (shutterlaw13_HostResets.f (k + 1) a0 a1 a b a4 c d) := by
 intro a0 a1 a b a4 c d k
 unfold shutterlaw13_HostResets.f
 repeat' first
   | (with_reducible exact shutterlaw13_awake.mono _)
   | (with_reducible exact shutterref10_Few.mono _ _ _ _ _ _ _)
   | (with_reducible exact shutterref10_Same.mono _ _ _ _ _ _ _ _ _ _ _ _ _)
   | (with_reducible exact shutterref13_Reset.mono _ _ _ _ _ _ _ _)
   | (with_reducible exact LeO.refl _)
   | (with_reducible exact LeO.none _)
   | (with_reducible refine LeO.ite ?_ ?_)
   | (with_reducible refine LeO.bind ?_ (fun _ => ?_))
   | exact shutterlaw13_awake.mono _
   | exact shutterref10_Few.mono _ _ _ _ _ _ _
   | exact shutterref10_Same.mono _ _ _ _ _ _ _ _ _ _ _ _ _
   | exact shutterref13_Reset.mono _ _ _ _ _ _ _ _
   | exact LeO.none _
   | refine LeO.ite ?_ ?_
   | refine LeO.bind ?_ (fun _ => ?_)
def shutterlaw13_HostResets.T3 : Bool × List (List Nat × List Nat) := (true, [([], []), ([], []), ([0, 1], [0, 1]), ([], []), ([], []), ([3, 4, 2], [3, 4]), ([2, 5, 5], [2, 5]), ([6, 6, 0, 1, 2, 3, 4, 5, 6], [6])])
def shutterlaw13_HostResets.B3 : List Nat := [0, 0, 3, 0, 0, 31, 63, 127]
theorem shutterlaw13_HostResets.tab3 : rtab .any (opsOf Tryd.f8 3) = shutterlaw13_HostResets.T3 := by kernel_rfl
theorem shutterlaw13_HostResets.bits3 : waitsOk shutterlaw13_HostResets.T3.2 shutterlaw13_HostResets.B3 = true := by kernel_rfl
set_option maxHeartbeats 8000000 in
set_option maxRecDepth 100000 in
theorem shutterlaw13_HostResets.calls (k : Nat) (g : Int) (j : Int) (E : Option Addr) (F : Nat) (d : List (S44)) (l : Int) (m : Bool) (o : Bool) (a1 : Bool) (r : Bool) (w : World) (af : Kd.C k44 w E d.length d) (ae : d.length ≤ F) (hG : LaidG w) (h : shutterlaw13_HostResets.f k g j d l m o a1 = some r) :
  Calls Tryd.prog 8 #[.agg #[.int .i64 g, .int .i64 j, .slice E d.length F, .int .i64 l, .bool m, .bool o], .bool a1] w fun e w' => e = .returned (.bool r) ∧ Below w.heap.size w w' := by
 have HG := Z hG
 clear hG
 have a5 := Tryd.underlying24
 have I := Z af
 have G := Z ae
 clear af ae
 have HB := Z (Below.refl w.heap.size w)
 have H : ((shutterlaw13_awake.f k).bind fun U => (if U = true then ((shutterref10_Few.f k g j d l m o).bind fun B => (if B = true then ((host_Reset.f g j d l m o a1).bind fun c => ((shutterref13_Reset.f k g j d l m o a1).bind fun b => ((shutterref10_Same.f k c.1 c.2.1 c.2.2.1 c.2.2.2.1 c.2.2.2.2.1 c.2.2.2.2.2 b.1 b.2.1 b.2.2.1 b.2.2.2.1 b.2.2.2.2.1 b.2.2.2.2.2).bind fun s => (some s)))) else ((shutterlaw13_awake.f k).bind fun x => (some x)))) else (none))) = some r := h
 clear h
 replace H := Option.bind_eq_some_iff.mp H
 obtain ⟨U, ap, H⟩ := H
 replace H : (if U = true then ((shutterref10_Few.f k g j d l m o).bind fun B => (if B = true then ((host_Reset.f g j d l m o a1).bind fun c => ((shutterref13_Reset.f k g j d l m o a1).bind fun b => ((shutterref10_Same.f k c.1 c.2.1 c.2.2.1 c.2.2.2.1 c.2.2.2.2.1 c.2.2.2.2.2 b.1 b.2.1 b.2.2.1 b.2.2.2.1 b.2.2.2.2.1 b.2.2.2.2.2).bind fun s => (some s)))) else ((shutterlaw13_awake.f k).bind fun x => (some x)))) else (none)) = some r := H
 have A3 := Z ap
 clear ap
 by_cases c4 : U = true
 ·subst c4
  have H1 : ((shutterref10_Few.f k g j d l m o).bind fun B => (if B = true then ((host_Reset.f g j d l m o a1).bind fun c => ((shutterref13_Reset.f k g j d l m o a1).bind fun b => ((shutterref10_Same.f k c.1 c.2.1 c.2.2.1 c.2.2.2.1 c.2.2.2.2.1 c.2.2.2.2.2 b.1 b.2.1 b.2.2.1 b.2.2.2.1 b.2.2.2.2.1 b.2.2.2.2.2).bind fun s => (some s)))) else ((shutterlaw13_awake.f k).bind fun x => (some x)))) = some r := by rw [if_pos rfl] at H; exact H
  clear H
  have H := H1
  clear H1
  replace H := Option.bind_eq_some_iff.mp H
  obtain ⟨B, aq, H⟩ := H
  replace H : (if B = true then ((host_Reset.f g j d l m o a1).bind fun c => ((shutterref13_Reset.f k g j d l m o a1).bind fun b => ((shutterref10_Same.f k c.1 c.2.1 c.2.2.1 c.2.2.2.1 c.2.2.2.2.1 c.2.2.2.2.2 b.1 b.2.1 b.2.2.1 b.2.2.2.1 b.2.2.2.2.1 b.2.2.2.2.2).bind fun s => (some s)))) else ((shutterlaw13_awake.f k).bind fun x => (some x))) = some r := H
  have A5 := Z aq
  clear aq
  by_cases c6 : B = true
  ·subst c6
   have H1 : ((host_Reset.f g j d l m o a1).bind fun c => ((shutterref13_Reset.f k g j d l m o a1).bind fun b => ((shutterref10_Same.f k c.1 c.2.1 c.2.2.1 c.2.2.2.1 c.2.2.2.2.1 c.2.2.2.2.2 b.1 b.2.1 b.2.2.1 b.2.2.2.1 b.2.2.2.2.1 b.2.2.2.2.2).bind fun s => (some s)))) = some r := by rw [if_pos rfl] at H; exact H
   clear H
   have H := H1
   clear H1
   replace H := Option.bind_eq_some_iff.mp H
   obtain ⟨⟨L, M, O, P, Q, R⟩, ar, H⟩ := H
   replace H : ((shutterref13_Reset.f k g j d l m o a1).bind fun b => ((shutterref10_Same.f k L M O P Q R b.1 b.2.1 b.2.2.1 b.2.2.2.1 b.2.2.2.2.1 b.2.2.2.2.2).bind fun s => (some s))) = some r := H
   have A7 := Z ar
   clear ar
   replace H := Option.bind_eq_some_iff.mp H
   obtain ⟨⟨V, W, X, Y, aa, ab⟩, au, H⟩ := H
   replace H : ((shutterref10_Same.f k L M O P Q R V W X Y aa ab).bind fun s => (some s)) = some r := H
   have A8 := Z au
   clear au
   replace H := Option.bind_eq_some_iff.mp H
   obtain ⟨s, av, H⟩ := H
   replace H : (some s) = some r := H
   have A9 := Z av
   clear av
   obtain rfl := Option.some.inj H
   go_enter Tryd.func8, Tryd.ntmps8
   try go_wp2_with (first | ((with_reducible refine gate_dst (N := 2) rfl ?_); refine bx_ 2 24 #[.int .i64 g, .int .i64 j, .slice E d.length F, .int .i64 l, .bool m, .bool o] ?_; intro u hg be hbox hb; have a := Z (hbox); have an := Z (ln_ hg : w.heap.size ≤ u); have am := Z (ln_ hg : w.heap.size ≤ u); replace HB := Z (below_step bl_ hb); clear hb hbox hg) | ((with_reducible refine gate_callee (f := 28) rfl ?_); refine goesL_ (some 5) rfl rfl Tryd.func28 (by kernel_rfl) rfl #[] rfl ag_ ?_; (with_reducible refine (shutterlaw13_awake.calls k  true _ ?sideG A3.out).mono ?_); (case sideG => exact laidG_below HG.out bl_ rfl); rintro e bf ⟨rfl, hb⟩; refine ⟨_, rfl, ?_⟩; replace a := Z (kb a.out hb); replace HB := Z (below_step bl_ hb); (try clear hb); (try clear J); (try clear hk); (try clear hi); obtain ⟨aB, aC, aD, aE, aF, aG, aN, aO, aP, aQ, aR, aS⟩ := cells6 a.out) | (go_at_call 15; (with_reducible refine (shutterref10_Few.calls k g j _ _ d l m o true _ ?side1 ?side2 A5.out).mono ?_); (case side1 => repeat (first | exact (Kd.C_below I.out HB.out) | (with_reducible apply pC))); (case side2 => exact G.out); rintro e a0 ⟨rfl, hb⟩; replace a := Z (kb a.out hb); replace HB := Z (below_step bl_ hb); (try clear hb); (try clear J); (try clear hk); (try clear hi)))
   have p := Z (blk_drew a.out)
   have q := Z (below_drew1 HB.out)
   clear a
   clear HB
   have a := p
   have HB := q
   clear p q
   refine start_ (n := 8) (S := fun w' => w'.cell? ⟨u, 0, none⟩ = some (.int .i64 g) ∧ w'.cell? ⟨u, 1, none⟩ = some (.int .i64 j) ∧ w'.cell? ⟨u, 2, none⟩ = some (.slice E d.length F) ∧ w'.cell? ⟨u, 3, none⟩ = some (.int .i64 l) ∧ w'.cell? ⟨u, 4, none⟩ = some (.bool m) ∧ w'.cell? ⟨u, 5, none⟩ = some (.bool o)) (ds := []) (bv 8 0) (by kernel_rfl) rfl rfl ⟨(blk_cell a.out 0).trans rfl, (blk_cell a.out 1).trans rfl, (blk_cell a.out 2).trans rfl, (blk_cell a.out 3).trans rfl, (blk_cell a.out 4).trans rfl, (blk_cell a.out 5).trans rfl⟩ (fun hHeld => ?_); refine with_tabW shutterlaw13_HostResets.tab3 shutterlaw13_HostResets.bits3 (fun HT_ HW_ => ?_)
   generalize a0.drew = bg at a HB hHeld ⊢
   refine pure_ (i := 1) (N := some 14) (v := ?_) (a' := ?_) (bv 8 2) rfl rfl (any_of HT_.out (by kernel_rfl)) (fun _ _ _ h => h) (Or.inl ⟨by rfl, ?_⟩) ?_ ?_
   rotate_left
   ·intro w'
    go_simp
    with_reducible rfl
   rotate_left
   ·simp only [Act.put, sA, sB, sC, i64_w, i32_w]
    rfl
   refine pure_ (i := 4) (N := some 17) (v := ?_) (a' := ?_) (bv 8 18) rfl rfl (any_of HT_.out (by kernel_rfl)) (fun _ _ _ h => h) (Or.inl ⟨by rfl, ?_⟩) ?_ ?_
   rotate_left
   ·intro w'
    go_simp
    with_reducible rfl
   rotate_left
   ·simp only [Act.put, sA, sB, sC, i64_w, i32_w]
    rfl
   refine take_ (i := 0) (N := some 13) (v := ?_) (a' := ?_) (bv 8 19) rfl rfl (take_ofW HT_.out HW_.out (by kernel_rfl)) (fun _ _ _ h => h) (Or.inl ⟨by rfl, ?_⟩) hHeld ?_ ?_
   rotate_left
   ·rintro w' ⟨s0, s1, s2, s3, s4, s5⟩
    go_simp
    with_reducible rfl
   rotate_left
   ·simp only [Act.put, sA, sB, sC, i64_w, i32_w]
    rfl
   refine take_ (i := 3) (N := some 16) (v := ?_) (a' := ?_) (bv 8 27) rfl rfl (take_ofW HT_.out HW_.out (by kernel_rfl)) (fun _ _ _ h => h) (Or.inl ⟨by rfl, ?_⟩) hHeld ?_ ?_
   rotate_left
   ·rintro w' ⟨s0, s1, s2, s3, s4, s5⟩
    go_simp
    with_reducible rfl
   rotate_left
   ·simp only [Act.put, sA, sB, sC, i64_w, i32_w]
    rfl
   refine one_ (i := 2) (N := some 15) (bv 8 31) rfl rfl (one_of HT_.out (by kernel_rfl)) (by decide) (fun K hK => ?_)
   refine goes_ Tryd.func29 (by kernel_rfl) rfl #[.agg #[.int .i64 g, .int .i64 j, .slice E d.length F, .int .i64 l, .bool m, .bool o], .bool a1] (by rfl) rfl rfl ag_ ?_
   with_reducible refine (host_Reset.calls g j _ _ d l m o a1 L M O P Q R _ ?side1 ?side2 A7.out).mono ?_
   (case side1 => repeat (first | exact (Kd.C_below I.out HB.out) | (with_reducible apply pC)))
   (case side2 => exact G.out)
   rintro e bh ⟨bc, rfl, T, hb⟩
   refine ⟨_, rfl, ?_⟩
   have p := Z (Kd.R_lower T (below_size bl_))
   have q := Z (kb a.out hb)
   have z := Z (below_step bl_ hb)
   clear a
   clear HB
   have y := p
   have a := q
   have HB := z
   clear p q z
   (try clear hb)
   (try clear J)
   (try clear hk)
   (try clear hi)
   (try clear T)
   refine hK.out _ _ ⟨(blk_cell a.out 0).trans rfl, (blk_cell a.out 1).trans rfl, (blk_cell a.out 2).trans rfl, (blk_cell a.out 3).trans rfl, (blk_cell a.out 4).trans rfl, (blk_cell a.out 5).trans rfl⟩ (fun hHeld => ?_)
   clear hK K
   refine norm_ (a' := ?_) ?_ ?_
   rotate_left
   ·show Act.put _ (some 15) _ = _
    simp only [Act.put, sA, sB, sC, i64_w, i32_w]
    rfl
   refine one_ (i := 5) (N := some 18) (bv 8 63) rfl rfl (one_of HT_.out (by kernel_rfl)) (by decide) (fun K hK => ?_)
   refine goes_ Tryd.func30 (by kernel_rfl) rfl #[.agg #[.int .i64 g, .int .i64 j, .slice E d.length F, .int .i64 l, .bool m, .bool o], .bool a1] (by rfl) rfl rfl ag_ ?_
   with_reducible refine (shutterref13_Reset.calls k g j _ _ d l m o a1 V W X Y aa ab _ ?side1 ?side2 A8.out).mono ?_
   (case side1 => repeat (first | exact (Kd.C_below I.out HB.out) | (with_reducible apply pC)))
   (case side2 => exact G.out)
   rintro e bi ⟨bd, rfl, T, hb⟩
   refine ⟨_, rfl, ?_⟩
   have p := Z (Kd.R_elder' (by (with_reducible repeat apply pR); exact y.out) (Kd.R_base T) hb)
   have q := Z (Kd.R_lower (Kd.R_new' T (Kd.R_lt (by (with_reducible repeat apply pR); exact y.out))) (below_size bl_))
   have z := Z (kb a.out hb)
   have A := Z (below_step bl_ hb)
   clear y
   clear a
   clear HB
   have y := p
   have D := q
   have a := z
   have HB := A
   clear p q z A
   (try clear hb)
   (try clear J)
   (try clear hk)
   (try clear hi)
   (try clear T)
   obtain ⟨ax, az, ah⟩ := Kd.R_slice y.out
   (first | subst ah | (injection ah with ac aj ad; have ak := ac.symm; have al := ad.symm; clear ac aj ad; subst ak; subst al))
   obtain ⟨ay, aA, ai⟩ := Kd.R_slice D.out
   (first | subst ai | (injection ai with ac aj ad; have ak := ac.symm; have al := ad.symm; clear ac aj ad; subst ak; subst al))
   refine hK.out _ _ ⟨(blk_cell a.out 0).trans rfl, (blk_cell a.out 1).trans rfl, (blk_cell a.out 2).trans rfl, (blk_cell a.out 3).trans rfl, (blk_cell a.out 4).trans rfl, (blk_cell a.out 5).trans rfl⟩ (fun hHeld => ?_)
   clear hK K
   refine norm_ (a' := ?_) ?_ ?_
   rotate_left
   ·show Act.put _ (some 18) _ = _
    simp only [Act.put, sA, sB, sC, i64_w, i32_w]
    rfl
   refine one_ (i := 6) (N := some 19) (bv 8 127) rfl rfl (one_of HT_.out (by kernel_rfl)) (by decide) (fun K hK => ?_)
   refine goes_ Tryd.func19 (by kernel_rfl) rfl #[.agg #[.int .i64 L, .int .i64 M, .slice ax O.length az, .int .i64 P, .bool Q, .bool R], .agg #[.int .i64 V, .int .i64 W, .slice ay X.length aA, .int .i64 Y, .bool aa, .bool ab]] (by rfl) rfl rfl ag_ ?_
   with_reducible refine (shutterref10_Same.calls k L M _ _ O P Q R V W _ _ X Y aa ab s _ ?side1 ?side2 ?side3 ?side4 A9.out).mono ?_
   (case side1 => repeat (first | exact (Kd.R_reads' y.out).2.2 | (with_reducible apply pC)))
   (case side2 => exact (Kd.R_reads' y.out).2.1)
   (case side3 => repeat (first | exact (Kd.R_reads' D.out).2.2 | (with_reducible apply pC)))
   (case side4 => exact (Kd.R_reads' D.out).2.1)
   rintro e bj ⟨rfl, hb⟩
   refine ⟨_, rfl, ?_⟩
   have p := Z (rb y.out hb)
   have q := Z (rb D.out hb)
   have z := Z (kb a.out hb)
   have A := Z (below_step bl_ hb)
   clear y
   clear D
   clear a
   clear HB
   have y := p
   have D := q
   have a := z
   have HB := A
   clear p q z A
   (try clear hb)
   (try clear J)
   (try clear hk)
   (try clear hi)
   refine hK.out _ _ ⟨(blk_cell a.out 0).trans rfl, (blk_cell a.out 1).trans rfl, (blk_cell a.out 2).trans rfl, (blk_cell a.out 3).trans rfl, (blk_cell a.out 4).trans rfl, (blk_cell a.out 5).trans rfl⟩ (fun hHeld => ?_)
   clear hK K
   refine norm_ (a' := ?_) ?_ ?_
   rotate_left
   ·show Act.put _ (some 19) _ = _
    simp only [Act.put, sA, sB, sC, i64_w, i32_w]
    rfl
   refine pure_ (i := 7) (N := some 4) (v := ?_) (a' := ?_) (bv 8 255) rfl rfl (any_of HT_.out (by kernel_rfl)) (fun _ _ _ h => h) (Or.inl ⟨by rfl, ?_⟩) ?_ ?_
   rotate_left
   ·intro w'
    go_simp
    with_reducible rfl
   rotate_left
   ·simp only [Act.put, sA, sB, sC, i64_w, i32_w]
    rfl
   refine done_ (done_of HT_.out (by kernel_rfl)) ?_
   try go_wp2
   go_ret
   exact ⟨er_, bl_⟩
  ·replace c6 := Bool.eq_false_iff.mpr c6
   subst c6
   have H1 : ((shutterlaw13_awake.f k).bind fun x => (some x)) = some r := by rw [if_neg (show ¬ (false = true) by decide)] at H; exact H
   clear H
   have H := H1
   clear H1
   replace H := Option.bind_eq_some_iff.mp H
   obtain ⟨x, ag, H⟩ := H
   replace H : (some x) = some r := H
   have ao := Z ag
   clear ag
   obtain rfl := Option.some.inj H
   go_enter Tryd.func8, Tryd.ntmps8
   go_wp2_with (first | ((with_reducible refine gate_dst (N := 2) rfl ?_); refine bx_ 2 24 #[.int .i64 g, .int .i64 j, .slice E d.length F, .int .i64 l, .bool m, .bool o] ?_; intro u hg bk hbox hb; have a := Z (hbox); have an := Z (ln_ hg : w.heap.size ≤ u); have am := Z (ln_ hg : w.heap.size ≤ u); replace HB := Z (below_step bl_ hb); clear hb hbox hg) | ((with_reducible refine gate_callee (f := 28) rfl ?_); refine goesL_ (some 5) rfl rfl Tryd.func28 (by kernel_rfl) rfl #[] rfl ag_ ?_; (with_reducible refine (shutterlaw13_awake.calls k  true _ ?sideG A3.out).mono ?_); (case sideG => exact laidG_below HG.out bl_ rfl); rintro e bl ⟨rfl, hb⟩; refine ⟨_, rfl, ?_⟩; replace a := Z (kb a.out hb); replace HB := Z (below_step bl_ hb); (try clear hb); (try clear J); (try clear hk); (try clear hi); obtain ⟨aH, aI, aJ, aK, aL, aM, aT, aU, aV, aW, aX, aY⟩ := cells6 a.out) | (go_at_call 15; (with_reducible refine (shutterref10_Few.calls k g j _ _ d l m o false _ ?side1 ?side2 A5.out).mono ?_); (case side1 => repeat (first | exact (Kd.C_below I.out HB.out) | (with_reducible apply pC))); (case side2 => exact G.out); rintro e bm ⟨rfl, hb⟩; replace a := Z (kb a.out hb); replace HB := Z (below_step bl_ hb); (try clear hb); (try clear J); (try clear hk); (try clear hi)) | ((with_reducible refine gate_callee (f := 28) rfl ?_); refine goesL_ (some 12) rfl rfl Tryd.func28 (by kernel_rfl) rfl #[] rfl ag_ ?_; (with_reducible refine (shutterlaw13_awake.calls k  x _ ?sideG ao.out).mono ?_); (case sideG => exact laidG_below HG.out bl_ rfl); rintro e bn ⟨rfl, hb⟩; refine ⟨_, rfl, ?_⟩; replace a := Z (kb a.out hb); replace HB := Z (below_step bl_ hb); (try clear hb); (try clear J); (try clear hk); (try clear hi)))
   go_ret
   have e_ : x = true := Option.some.inj (ao.out.symm.trans A3.out)
   exact ⟨er_, bl_⟩
 ·replace c4 := Bool.eq_false_iff.mpr c4
  subst c4
  have H1 : (none) = some r := by rw [if_neg (show ¬ (false = true) by decide)] at H; exact H
  clear H
  have H := H1
  clear H1
  exact absurd H (by simp)

end Go.Proofs.YtgboplhcjhlabaaDoor.P
