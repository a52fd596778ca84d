/- pp.py and press2.py (wip/tools) wrote this text. -/
import Derived.Test.YtggecanpjkpkiaaDoorPx0
import Derived.Test.YtggecanpjkpkiaaDoorPxS
import Derived.Test.YtggecanpjkpkiaaDoorPx4
import Derived.Test.YtggecanpjkpkiaaDoorPx5
import Derived.Test.YtggecanpjkpkiaaDoorPx20
import Derived.Test.YtggecanpjkpkiaaDoorPx21
namespace Go.Proofs.YtggecanpjkpkiaaDoor.P
open Go.RowKit Go.Proofs.YtggecanpjkpkiaaDoorW.PrintWords Go.Proofs.YtggecanpjkpkiaaDoorW.PrintLast Go.Proofs.YtggecanpjkpkiaaDoorW.PrintMore
attribute [local go_sem] max2_int min2_int max_two min_two max_three min_three max_four min_four
attribute [local go_sem] Instr.field asAgg
set_option linter.unusedVariables false
set_option linter.unusedSimpArgs false

set_option maxHeartbeats 8000000 in
set_option maxRecDepth 100000 in
theorem wipe_Do.callsN (k : Nat) (x : Int) (y : Int) (aq : Nat → Prop) (ac : Option Addr) (ad : Nat) (u : List (S35)) (l : Int) (W : Bool) (z : Bool) (a1 : Int) (r1 : Int) (r2 : Int) (r3 : List (S35)) (r4 : Int) (r5 : Bool) (r6 : Bool) (r8 : List (S164)) (w : World) (eM : Kd.V k35 35 w w.heap.size (fun k_ => aq k_) (.slice ac u.length ad) u) (h : wipe_Do.f k x y u l W z a1 = some (r1, r2, r3, r4, r5, r6, (none : Option Er), r8)) :
  Calls Tryd.prog 19 #[.agg #[.int .i64 x, .int .i64 y, .slice ac u.length ad, .int .i64 l, .bool W, .bool z], .int .i64 a1] w fun e w' => ∃ eA eV : Value, e = .returned (.tuple #[.agg #[.int .i64 r1, .int .i64 r2, eA, .int .i64 r4, .bool r5, .bool r6], errW eV (none : Option Er)]) ∧ Kd.R k35 35 w' w.heap.size (fun k_ => (w.heap.size ≤ k_)) eA r3 ∧ Kd.V k164 164 w' w.heap.size (fun k_ => (aq k_ ∨ w.heap.size ≤ k_) ∧ some k_ ≠ (eA : Value).ownBlock) eV r8 ∧ Below w.heap.size w w' := by
 have hX := Tryd.underlying24
 have hY := Tryd.underlying28
 have hZ := Tryd.underlying52
 have r := Z (show Kd.V k35 35 w w.heap.size (fun k_ => (aq k_ ∨ w.heap.size ≤ k_)) (.slice ac u.length ad) u from Kd.V_mono eM (fun k_ hk => .inl hk))
 have HB := Z (Below.refl w.heap.size w)
 have H : ((wipe_Wipes.f a1).bind fun bu => (if bu = true then (if W = true then (some (x, y, u, l, W, z, some (Er.num 7), ([] : List (S164)))) else (if a1 = 14 then ((wipe_all.f k x y u l W z).bind fun T => (some (T.1, T.2.1, T.2.2.1, T.2.2.2.1, T.2.2.2.2.1, T.2.2.2.2.2, none, ([] : List (S164))))) else ((field_Open.f x y u l W z l).bind fun aC => (if aC = true then ((edit_Line.f k x y u l W z l).bind fun a => ((edit_Modify.f x y u l W z l).bind fun C => (wipe_Do.l0 k a1 a a (a.length : Int) 0 x y u l W z C.1 C.2.1 C.2.2.1 C.2.2.2.1 C.2.2.2.2.1 C.2.2.2.2.2))) else ((edit_Deny.f x y u l W z (some (Er.num 8)) ([] : List (S164))).bind fun A => (some (A.1, A.2.1, A.2.2.1, A.2.2.2.1, A.2.2.2.2.1, A.2.2.2.2.2.1, A.2.2.2.2.2.2.1, A.2.2.2.2.2.2.2))))))) else (some (x, y, u, l, W, z, some (Er.num 1), ([] : List (S164)))))) = some (r1, r2, r3, r4, r5, r6, (none : Option Er), r8) := h
 clear h
 replace H := Option.bind_eq_some_iff.mp H
 obtain ⟨bu, eO, H⟩ := H
 replace H : (if bu = true then (if W = true then (some (x, y, u, l, W, z, some (Er.num 7), ([] : List (S164)))) else (if a1 = 14 then ((wipe_all.f k x y u l W z).bind fun T => (some (T.1, T.2.1, T.2.2.1, T.2.2.2.1, T.2.2.2.2.1, T.2.2.2.2.2, none, ([] : List (S164))))) else ((field_Open.f x y u l W z l).bind fun aC => (if aC = true then ((edit_Line.f k x y u l W z l).bind fun a => ((edit_Modify.f x y u l W z l).bind fun C => (wipe_Do.l0 k a1 a a (a.length : Int) 0 x y u l W z C.1 C.2.1 C.2.2.1 C.2.2.2.1 C.2.2.2.2.1 C.2.2.2.2.2))) else ((edit_Deny.f x y u l W z (some (Er.num 8)) ([] : List (S164))).bind fun A => (some (A.1, A.2.1, A.2.2.1, A.2.2.2.1, A.2.2.2.2.1, A.2.2.2.2.2.1, A.2.2.2.2.2.2.1, A.2.2.2.2.2.2.2))))))) else (some (x, y, u, l, W, z, some (Er.num 1), ([] : List (S164))))) = some (r1, r2, r3, r4, r5, r6, (none : Option Er), r8) := H
 have A3 := Z eO
 clear eO
 by_cases c4 : bu = true
 ·subst c4
  have H1 : (if W = true then (some (x, y, u, l, W, z, some (Er.num 7), ([] : List (S164)))) else (if a1 = 14 then ((wipe_all.f k x y u l W z).bind fun T => (some (T.1, T.2.1, T.2.2.1, T.2.2.2.1, T.2.2.2.2.1, T.2.2.2.2.2, none, ([] : List (S164))))) else ((field_Open.f x y u l W z l).bind fun aC => (if aC = true then ((edit_Line.f k x y u l W z l).bind fun a => ((edit_Modify.f x y u l W z l).bind fun C => (wipe_Do.l0 k a1 a a (a.length : Int) 0 x y u l W z C.1 C.2.1 C.2.2.1 C.2.2.2.1 C.2.2.2.2.1 C.2.2.2.2.2))) else ((edit_Deny.f x y u l W z (some (Er.num 8)) ([] : List (S164))).bind fun A => (some (A.1, A.2.1, A.2.2.1, A.2.2.2.1, A.2.2.2.2.1, A.2.2.2.2.2.1, A.2.2.2.2.2.2.1, A.2.2.2.2.2.2.2))))))) = some (r1, r2, r3, r4, r5, r6, (none : Option Er), r8) := by rw [if_pos rfl] at H; exact H
  clear H
  have H := H1
  clear H1
  by_cases c5 : W = true
  ·subst c5
   have H1 : (some (x, y, u, l, true, z, some (Er.num 7), ([] : List (S164)))) = some (r1, r2, r3, r4, r5, r6, (none : Option Er), r8) := by rw [if_pos rfl] at H; exact H
   clear H
   have H := H1
   clear H1
   exact absurd H (by simp)
  ·replace c5 := Bool.eq_false_iff.mpr c5
   subst c5
   have H1 : (if a1 = 14 then ((wipe_all.f k x y u l false z).bind fun T => (some (T.1, T.2.1, T.2.2.1, T.2.2.2.1, T.2.2.2.2.1, T.2.2.2.2.2, none, ([] : List (S164))))) else ((field_Open.f x y u l false z l).bind fun aC => (if aC = true then ((edit_Line.f k x y u l false z l).bind fun a => ((edit_Modify.f x y u l false z l).bind fun C => (wipe_Do.l0 k a1 a a (a.length : Int) 0 x y u l false z C.1 C.2.1 C.2.2.1 C.2.2.2.1 C.2.2.2.2.1 C.2.2.2.2.2))) else ((edit_Deny.f x y u l false z (some (Er.num 8)) ([] : List (S164))).bind fun A => (some (A.1, A.2.1, A.2.2.1, A.2.2.2.1, A.2.2.2.2.1, A.2.2.2.2.2.1, A.2.2.2.2.2.2.1, A.2.2.2.2.2.2.2)))))) = some (r1, r2, r3, r4, r5, r6, (none : Option Er), r8) := by rw [if_neg (show ¬ (false = true) by decide)] at H; exact H
   clear H
   have H := H1
   clear H1
   by_cases c6 : a1 = 14
   ·rw [if_pos c6] at H
    have dQ : (a1 == 14) = true := beq_iff_eq.mpr c6
    have dR : (a1 != 14) = false := bne_eq_false_iff_eq.mpr c6
    clear c6
    replace H := Option.bind_eq_some_iff.mp H
    obtain ⟨⟨bw, bx, bz, bA, bB, bC⟩, eP, H⟩ := H
    replace H : (some (bw, bx, bz, bA, bB, bC, none, ([] : List (S164)))) = some (r1, r2, r3, r4, r5, r6, (none : Option Er), r8) := H
    have A7 := Z eP
    clear eP
    simp only [Option.some.injEq, Prod.mk.injEq] at H
    (first | obtain ⟨rfl, rfl, rfl, rfl, rfl, rfl, _, rfl⟩ := H | obtain ⟨rfl, rfl, rfl, rfl, rfl, rfl, rfl⟩ := H)
    go_enter Tryd.func19, Tryd.ntmps19
    go_wp2_with (first | ((with_reducible refine gate_dst (N := 2) rfl ?_); (try (refine gate_guard (by rfl) ?_; dsimp only)); refine bx_ 2 24 #[.int .i64 x, .int .i64 y, .slice ac u.length ad, .int .i64 l, .bool false, .bool z] ?_; intro P hg w8 hbox hb; replace r := Z (ve r.out hg hb); have d := Z (hbox); have b3 := Z (ln_ hg : w.heap.size ≤ P); have bo := Z (ln_ hg : w.heap.size ≤ P); replace HB := Z (below_step bl_ hb); clear hb hbox hg) | ((with_reducible refine gate_dst (N := 4) rfl ?_); (try (refine gate_guard (by rfl) ?_; dsimp only)); refine bx_ 4 24 #[.int .i64 0, .int .i64 0, .slice none 0 0, .int .i64 0, .bool false, .bool false] ?_; intro B hg w9 hbox hb; replace r := Z (ve r.out hg hb); have q := Z (hbox); have b4 := Z (ln_ hg : w.heap.size ≤ B); have bp := Z (ln_ hg : w.heap.size ≤ B); replace HB := Z (below_step bl_ hb); have am := Z (nl d.out hg); have ao := Z (ng d.out hg); replace d := Z (kb d.out hb); clear hb hbox hg) | ((with_reducible refine gate_callee (f := 29) rfl ?_); refine goesL_ (some 12) rfl rfl Tryd.func29 (by kernel_rfl) rfl #[.int .i64 a1] rfl ag_ ?_; (with_reducible refine (wipe_Wipes.calls a1 true _ A3.out).mono ?_); rintro e w' ⟨rfl, ⟨nd, rfl⟩⟩; refine ⟨_, rfl, ?_⟩; (try (rw [drewN_self w9]; generalize hq_ : World.drewN w9 _ = w9; replace r := Z (qV hq_ r.out); replace d := Z (qM hq_ d.out); replace q := Z (qM hq_ q.out); replace HB := Z (qB hq_ HB.out); clear hq_)); have hh := am.out; have hB := ao.out; obtain ⟨cn, co, cp, cq, cr, ct, cY, cZ, c0, c7, c8, c9⟩ := cells6 d.out) | ((with_reducible refine gate_callee (f := 43) rfl ?_); refine goesL_ (some 25) rfl rfl Tryd.func43 (by kernel_rfl) rfl #[.agg #[.int .i64 x, .int .i64 y, .slice ac u.length ad, .int .i64 l, .bool false, .bool z]] rfl ag_ ?_; (with_reducible refine (wipe_all.calls k x y _ _ u l false z bw bx bz bA bB bC _ ?side1 ?side2 A7.out).mono ?_); (case side1 => repeat (first | exact (Kd.V_reads' r.out).2.2 | (with_reducible apply pC))); (case side2 => exact (Kd.V_reads' r.out).2.1); rintro e ia ⟨h0, rfl, ay, hb⟩; refine ⟨_, rfl, ?_⟩; replace r := Z (Kd.V_elder' (vV r.out) (Kd.R_base ay) hb); have b5 := Z (Kd.R_lower (Kd.R_newM (M := fun k_ => (w.heap.size ≤ k_)) ay (below_size bl_) (fun k_ h_ => h_)) (below_size bl_)); replace d := Z (kb d.out hb); replace q := Z (kb q.out hb); replace HB := Z (below_step bl_ hb); (try clear hb); (try clear bE); (try clear hk); (try clear hi); (try clear ay); obtain ⟨cu, cv, cw, cx, cy, cz, da, db, dc, dd, de, df⟩ := cells6 q.out; obtain ⟨dK, dU, eZ⟩ := Kd.R_slice b5.out; subst eZ))
    refine bodyPost_ret (results_ct rfl _ _ B 24 #[.int .i64 bw, .int .i64 bx, .slice dK bz.length dU, .int .i64 bA, .bool bB, .bool bC] (0, 0) _ rfl (put6 q.out) Tryd.underlying24 rfl (by kernel_rfl)) rfl ?_
    exact ⟨_, _, er_, by (with_reducible repeat apply pR); exact Kd.R_mono (f6R B (Kd.R_types b5.out q.out (by decide)) (fun _ hk => hk.2)) (fun _ hk => hk.1.1), Kd.R_V (Kd.R_nil _ _ _ 0 _), bl_⟩
   ·rw [if_neg c6] at H
    have dQ : (a1 == 14) = false := beq_eq_false_iff_ne.mpr c6
    have dR : (a1 != 14) = true := bne_iff_ne.mpr c6
    replace H := Option.bind_eq_some_iff.mp H
    obtain ⟨aC, dG, H⟩ := H
    replace H : (if aC = true then ((edit_Line.f k x y u l false z l).bind fun a => ((edit_Modify.f x y u l false z l).bind fun C => (wipe_Do.l0 k a1 a a (a.length : Int) 0 x y u l false z C.1 C.2.1 C.2.2.1 C.2.2.2.1 C.2.2.2.2.1 C.2.2.2.2.2))) else ((edit_Deny.f x y u l false z (some (Er.num 8)) ([] : List (S164))).bind fun A => (some (A.1, A.2.1, A.2.2.1, A.2.2.2.1, A.2.2.2.2.1, A.2.2.2.2.2.1, A.2.2.2.2.2.2.1, A.2.2.2.2.2.2.2)))) = some (r1, r2, r3, r4, r5, r6, (none : Option Er), r8) := H
    have eN := Z dG
    clear dG
    by_cases bD : aC = true
    ·subst bD
     have H1 : ((edit_Line.f k x y u l false z l).bind fun a => ((edit_Modify.f x y u l false z l).bind fun C => (wipe_Do.l0 k a1 a a (a.length : Int) 0 x y u l false z C.1 C.2.1 C.2.2.1 C.2.2.2.1 C.2.2.2.2.1 C.2.2.2.2.2))) = some (r1, r2, r3, r4, r5, r6, (none : Option Er), r8) := by rw [if_pos rfl] at H; exact H
     clear H
     have H := H1
     clear H1
     replace H := Option.bind_eq_some_iff.mp H
     obtain ⟨a, dH, H⟩ := H
     replace H : ((edit_Modify.f x y u l false z l).bind fun C => (wipe_Do.l0 k a1 a a (a.length : Int) 0 x y u l false z C.1 C.2.1 C.2.2.1 C.2.2.2.1 C.2.2.2.2.1 C.2.2.2.2.2)) = some (r1, r2, r3, r4, r5, r6, (none : Option Er), r8) := H
     have gY := Z dH
     clear dH
     replace H := Option.bind_eq_some_iff.mp H
     obtain ⟨⟨ae, af, aQ, ag, ah, ai⟩, dI, H⟩ := H
     replace H : (wipe_Do.l0 k a1 a a (a.length : Int) 0 x y u l false z ae af aQ ag ah ai) = some (r1, r2, r3, r4, r5, r6, (none : Option Er), r8) := H
     have gZ := Z dI
     clear dI
     have H' := Z H
     clear H
     go_enter Tryd.func19, Tryd.ntmps19
     go_wp2_with (first | ((with_reducible refine gate_dst (N := 2) rfl ?_); (try (refine gate_guard (by rfl) ?_; dsimp only)); refine bx_ 2 24 #[.int .i64 x, .int .i64 y, .slice ac u.length ad, .int .i64 l, .bool false, .bool z] ?_; intro P hg ib hbox hb; replace r := Z (ve r.out hg hb); have d := Z (hbox); have b3 := Z (ln_ hg : w.heap.size ≤ P); have bo := Z (ln_ hg : w.heap.size ≤ P); replace HB := Z (below_step bl_ hb); clear hb hbox hg) | ((with_reducible refine gate_dst (N := 4) rfl ?_); (try (refine gate_guard (by rfl) ?_; dsimp only)); refine bx_ 4 24 #[.int .i64 0, .int .i64 0, .slice none 0 0, .int .i64 0, .bool false, .bool false] ?_; intro B hg ba hbox hb; replace r := Z (ve r.out hg hb); have q := Z (hbox); have b4 := Z (ln_ hg : w.heap.size ≤ B); have bp := Z (ln_ hg : w.heap.size ≤ B); replace HB := Z (below_step bl_ hb); have am := Z (nl d.out hg); have ao := Z (ng d.out hg); replace d := Z (kb d.out hb); clear hb hbox hg) | ((with_reducible refine gate_callee (f := 29) rfl ?_); refine goesL_ (some 12) rfl rfl Tryd.func29 (by kernel_rfl) rfl #[.int .i64 a1] rfl ag_ ?_; (with_reducible refine (wipe_Wipes.calls a1 true _ A3.out).mono ?_); rintro e w' ⟨rfl, ⟨nd, rfl⟩⟩; refine ⟨_, rfl, ?_⟩; (try (rw [drewN_self ba]; generalize hq_ : World.drewN ba _ = ba; replace r := Z (qV hq_ r.out); replace d := Z (qM hq_ d.out); replace q := Z (qM hq_ q.out); replace HB := Z (qB hq_ HB.out); clear hq_)); have hj := am.out; have hC := ao.out; obtain ⟨cA, cB, cC, cD, cE, cF, dg, dh, di, dj, dk, dl⟩ := cells6 d.out) | ((with_reducible refine gate_callee (f := 44) rfl ?_); refine goesL_ (some 30) rfl rfl Tryd.func44 (by kernel_rfl) rfl #[.agg #[.int .i64 x, .int .i64 y, .slice ac u.length ad, .int .i64 l, .bool false, .bool z], .int .i64 l] rfl ag_ ?_; (with_reducible refine (field_Open.calls x y _ _ u l false z l true _ ?side1 ?side2 eN.out).mono ?_); (case side1 => repeat (first | exact (Kd.V_reads' r.out).2.2 | (with_reducible apply pC))); (case side2 => exact (Kd.V_reads' r.out).2.1); rintro e ic ⟨rfl, hb⟩; refine ⟨_, rfl, ?_⟩; replace r := Z (vb r.out hb); replace d := Z (kb d.out hb); replace q := Z (kb q.out hb); replace HB := Z (below_step bl_ hb); (try clear hb); (try clear bE); (try clear hk); (try clear hi); obtain ⟨cG, cH, cI, cJ, cK, cL, dm, dn, dp, dq, dr, dt⟩ := cells6 d.out) | ((with_reducible refine gate_callee (f := 26) rfl ?_); refine goesL_ (some 40) rfl rfl Tryd.func26 (by kernel_rfl) rfl #[.agg #[.int .i64 x, .int .i64 y, .slice ac u.length ad, .int .i64 l, .bool false, .bool z], .int .i64 l] rfl ag_ ?_; (with_reducible refine (edit_Line.calls k x y _ _ u l false z l a _ ?side1 ?side2 gY.out).mono ?_); (case side1 => repeat (first | exact (Kd.V_reads' r.out).2.2 | (with_reducible apply pC))); (case side2 => exact (Kd.V_reads' r.out).2.1); rintro e id ⟨h2, rfl, ay, hb⟩; refine ⟨_, rfl, ?_⟩; replace r := Z (Kd.V_elder' (vV r.out) (Kd.Q_base ay) hb); have aw := Z (Kd.Q_lower (Kd.Q_newM (M := fun k_ => (w.heap.size ≤ k_)) ay (below_size bl_) (fun k_ h_ => h_)) (below_size bl_)); replace d := Z (kb d.out hb); replace q := Z (kb q.out hb); replace HB := Z (below_step bl_ hb); (try clear hb); (try clear bE); (try clear hk); (try clear hi); (try clear ay); obtain ⟨cM, cN, cO, cP, cQ, cR, du, dv, dw, dx, dy, dz⟩ := cells6 d.out) | ((with_reducible refine gate_callee (f := 36) rfl ?_); refine goesL_ (some 44) rfl rfl Tryd.func36 (by kernel_rfl) rfl #[.agg #[.int .i64 x, .int .i64 y, .slice ac u.length ad, .int .i64 l, .bool false, .bool z], .int .i64 l] rfl ag_ ?_; (with_reducible refine (edit_Modify.calls x y _ _ u l false z l ae af aQ ag ah ai _ ?side1 ?side2 gZ.out).mono ?_); (case side1 => repeat (first | exact (Kd.V_reads' r.out).2.2 | (with_reducible apply pC))); (case side2 => exact (Kd.V_reads' r.out).2.1); rintro e ie ⟨h3, rfl, ay, hb⟩; refine ⟨_, rfl, ?_⟩; replace r := Z (Kd.V_elder' (vV r.out) (Kd.R_base ay) hb); replace aw := Z (Kd.Q_below (by (with_reducible repeat (first | apply Kd.Q_alloc | apply Kd.Q_drewN | apply Kd.Q_drew)); exact aw.out) hb); have aR := Z (Kd.R_lower (Kd.R_newM (M := fun k_ => (w.heap.size ≤ k_)) ay (below_size bl_) (fun k_ h_ => h_)) (below_size bl_)); replace d := Z (kb d.out hb); replace q := Z (kb q.out hb); replace HB := Z (below_step bl_ hb); (try clear hb); (try clear bE); (try clear hk); (try clear hi); (try clear ay)) | ((with_reducible refine gate_dst (N := 7) rfl ?_); (try (refine gate_guard (by rfl) ?_; dsimp only)); refine bx_ 7 24 #[.int .i64 0, .int .i64 0, .slice none 0 0, .int .i64 0, .bool false, .bool false] ?_; intro D hg ig hbox hb; replace r := Z (ve r.out hg hb); replace aw := Z (Kd.Q_below (by (with_reducible repeat (first | apply Kd.Q_alloc | apply Kd.Q_drewN | apply Kd.Q_drew)); exact aw.out) hb); replace aR := Z (rb aR.out hb); have F := Z (hbox); have g6 := Z (ln_ hg : w.heap.size ≤ D); have eD := Z (ln_ hg : w.heap.size ≤ D); replace HB := Z (below_step bl_ hb); have an := Z (nl d.out hg); have au := Z (ng d.out hg); replace d := Z (kb d.out hb); have ap := Z (nl q.out hg); have av := Z (ng q.out hg); replace q := Z (kb q.out hb); clear hb hbox hg; have hl := au.out; have hD := an.out; have hm := av.out; have hE := ap.out; obtain ⟨cS, cT, cU, cV, cW, cX, dA, dB, dC, dD, dE, dF⟩ := cells6 F.out; obtain ⟨aX, a0, e0⟩ := Kd.R_slice aR.out; subst e0; obtain ⟨bn, aB, e1, _⟩ := Kd.Q_slice aw.out; subst e1))
     go_loopg [47] k (fun kq g5 w' => ∃ (b : Int) (s : List (S35)) (c : List (S35)) (u718002 : Value) (u753002 : Value), g5 = .int .i64 b ∧ Aside0 (wipe_Do.l0 kq a1 a a (a.length : Int) b x y s l false z ae af c ag ah ai = some (r1, r2, r3, r4, r5, r6, (none : Option Er), r8)) ∧ Aside0 (kq ≤ k) ∧ Aside0 (Kd.Q (Kd.int .i64) 3 w' w.heap.size (fun k_ => (w.heap.size ≤ k_)) (.slice bn a.length aB) a) ∧ Aside0 (Kd.Q (Kd.int .i64) 3 w' w.heap.size (fun k_ => (w.heap.size ≤ k_)) (.slice bn a.length aB) a) ∧ Aside0 (Kd.V k35 35 w' w.heap.size (fun k_ => (aq k_ ∨ w.heap.size ≤ k_) ∧ some k_ ≠ ((.slice bn a.length aB) : Value).ownBlock ∧ some k_ ≠ ((.slice bn a.length aB) : Value).ownBlock ∧ some k_ ≠ (u753002 : Value).ownBlock ∧ k_ ≠ P ∧ k_ ≠ B ∧ k_ ≠ D) u718002 s) ∧ Aside0 (Kd.R k35 35 w' w.heap.size (fun k_ => (w.heap.size ≤ k_)) u753002 c) ∧ Aside0 (w'.heap[P]? = some (.cells #[.int .i64 x, .int .i64 y, u718002, .int .i64 l, .bool false, .bool z] 24 (0, 0))) ∧ Aside0 (w'.heap[B]? = some (.cells #[.int .i64 0, .int .i64 0, (.slice none 0 0), .int .i64 0, .bool false, .bool false] 24 (0, 0))) ∧ Aside0 (w'.heap[D]? = some (.cells #[.int .i64 ae, .int .i64 af, u753002, .int .i64 ag, .bool ah, .bool ai] 24 (0, 0))) ∧ Aside0 (Below w.heap.size w w'))
     case atStart => exact ⟨(0), (u), (aQ), (.slice ac u.length ad), (.slice aX aQ.length a0), (dn_), H', ⟨Nat.le_refl _⟩, ⟨by (with_reducible repeat (first | apply Kd.Q_alloc | apply Kd.Q_drewN | apply Kd.Q_drew)); exact Kd.Q_mono (Kd.Q_far (p := ⟨D, 5, none⟩) (Kd.Q_far (p := ⟨D, 4, none⟩) (Kd.Q_far (p := ⟨D, 3, none⟩) (Kd.Q_far (p := ⟨D, 2, none⟩) (Kd.Q_far (p := ⟨D, 1, none⟩) (Kd.Q_far (p := ⟨D, 0, none⟩) (Kd.Q_types aw.out F.out (by decide)) (fun _ hk => hk.2) (.int .i64 ae)) (fun _ hk => hk.2) (.int .i64 af)) (fun _ hk => hk.2) (.slice aX aQ.length a0)) (fun _ hk => hk.2) (.int .i64 ag)) (fun _ hk => hk.2) (.bool ah)) (fun _ hk => hk.2) (.bool ai)) (fun _ hk => hk.1.1)⟩, ⟨by (with_reducible repeat (first | apply Kd.Q_alloc | apply Kd.Q_drewN | apply Kd.Q_drew)); exact Kd.Q_mono (Kd.Q_far (p := ⟨D, 5, none⟩) (Kd.Q_far (p := ⟨D, 4, none⟩) (Kd.Q_far (p := ⟨D, 3, none⟩) (Kd.Q_far (p := ⟨D, 2, none⟩) (Kd.Q_far (p := ⟨D, 1, none⟩) (Kd.Q_far (p := ⟨D, 0, none⟩) (Kd.Q_types aw.out F.out (by decide)) (fun _ hk => hk.2) (.int .i64 ae)) (fun _ hk => hk.2) (.int .i64 af)) (fun _ hk => hk.2) (.slice aX aQ.length a0)) (fun _ hk => hk.2) (.int .i64 ag)) (fun _ hk => hk.2) (.bool ah)) (fun _ hk => hk.2) (.bool ai)) (fun _ hk => hk.1.1)⟩, ⟨by (with_reducible repeat apply pV); exact Kd.V_mono (f6V D (Kd.V_mono r.out (fun k_ hk => (⟨hk, hk.2⟩ : _ ∧ k_ ≠ D))) (fun _ hk => hk.2)) (fun _ hk => ⟨hk.1.1.1.1.1.1, ⟨hk.1.1.1.2, ⟨hk.1.1.1.2, ⟨hk.1.1.2, ⟨hk.1.1.1.1.1.2, ⟨hk.1.1.1.1.2, hk.1.2⟩⟩⟩⟩⟩⟩)⟩, ⟨by (with_reducible repeat apply pR); exact Kd.R_mono (f6R D (Kd.R_types aR.out F.out (by decide)) (fun _ hk => hk.2)) (fun _ hk => hk.1.1)⟩, ⟨blk_off d.out an.out off2_⟩, ⟨blk_off q.out ap.out off2_⟩, ⟨put6 F.out⟩, ⟨bl_⟩⟩
     case round =>
      clear H'
      try clear c1
      try clear c2
      try clear p2
      try clear c3
      try clear c4
      try clear c5
      try clear c6
      try clear dQ
      try clear dR
      try clear c10
      try clear bD
      try clear h4
      try clear h5
      try clear h6
      try clear h7
      try clear h8
      try clear cn
      try clear co
      try clear cp
      try clear cq
      try clear cr
      try clear ct
      try clear cu
      try clear cv
      try clear cw
      try clear cx
      try clear cy
      try clear cz
      try clear cA
      try clear cB
      try clear cC
      try clear cD
      try clear cE
      try clear cF
      try clear cG
      try clear cH
      try clear cI
      try clear cJ
      try clear cK
      try clear cL
      try clear cM
      try clear cN
      try clear cO
      try clear cP
      try clear cQ
      try clear cR
      try clear cS
      try clear cT
      try clear cU
      try clear cV
      try clear cW
      try clear cX
      try clear cY
      try clear cZ
      try clear c0
      try clear c7
      try clear c8
      try clear c9
      try clear da
      try clear db
      try clear dc
      try clear dd
      try clear de
      try clear df
      try clear dg
      try clear dh
      try clear di
      try clear dj
      try clear dk
      try clear dl
      try clear dm
      try clear dn
      try clear dp
      try clear dq
      try clear dr
      try clear dt
      try clear du
      try clear dv
      try clear dw
      try clear dx
      try clear dy
      try clear dz
      try clear dA
      try clear dB
      try clear dC
      try clear dD
      try clear dE
      try clear dF
      obtain ⟨b, s, c, u718002, u753002, rfl, HA, bc, HO_6, HO_45, HO_718002, HO_753002, d, q, F, HB⟩ := hrel
      cases gk with
      | zero => exact absurd HA.out (by simp [wipe_Do.l0])
      | succ k1 =>
       have H := HA.out
       clear HA
       simp only [wipe_Do.l0] at H
       by_cases bd : b < (a.length : Int)
       ·rw [if_pos bd] at H
        have eH : decide (b < (a.length : Int)) = true := decide_eq_true bd
        clear bd
        by_cases b7 : 0 ≤ b
        ·rw [if_pos b7] at H
         have g7 : decide (0 ≤ b) = true := decide_eq_true b7
         clear b7
         by_cases b8 : b < (a.length : Int)
         ·rw [if_pos b8] at H
          have g8 : decide (b < (a.length : Int)) = true := decide_eq_true b8
          clear b8
          by_cases b9 : 0 ≤ (rd a b)
          ·rw [if_pos b9] at H
           have g9 : decide (0 ≤ (rd a b)) = true := decide_eq_true b9
           clear b9
           by_cases ca : (rd a b) < (c.length : Int)
           ·rw [if_pos ca] at H
            have ha : decide ((rd a b) < (c.length : Int)) = true := decide_eq_true ca
            clear ca
            obtain ⟨O, aU⟩ : ∃ y_ : List (S35), y_ = (c.set ((rd a b) : Int).toNat (⟨(rd_T35 c (rd a b)).f0, (⟨(rd_T35 c (rd a b)).f1.f0, (rd_T35 c (rd a b)).f1.f1, (rd_T35 c (rd a b)).f1.f2, (rd_T35 c (rd a b)).f1.f3⟩ : S33), 0⟩ : S35)) := ⟨_, rfl⟩
            replace H : (if a1 = 12 then (if (wrap64 (b + 1)) < (a.length : Int) then (if 0 ≤ (wrap64 (b + 1)) then (if 0 ≤ (rd a (wrap64 (b + 1))) then (if (rd a (wrap64 (b + 1))) < (s.length : Int) then (wipe_Do.l0 k1 a1 a a (a.length : Int) (wrap64 (b + 1)) x y s l false z ae af (O.set ((rd a b) : Int).toNat (⟨(rd_T35 O (rd a b)).f0, (⟨(rd_T35 O (rd a b)).f1.f0, (rd_T35 O (rd a b)).f1.f1, (rd_T35 O (rd a b)).f1.f2, (rd_T35 O (rd a b)).f1.f3⟩ : S33), (rd_T35 s (rd a (wrap64 (b + 1)))).f2⟩ : S35)) ag ah ai) else (none)) else (none)) else (none)) else (wipe_Do.l0 k1 a1 a a (a.length : Int) (wrap64 (b + 1)) x y s l false z ae af O ag ah ai)) else (wipe_Do.l0 k1 a1 a a (a.length : Int) (wrap64 (b + 1)) x y s l false z ae af O ag ah ai)) = some (r1, r2, r3, r4, r5, r6, (none : Option Er), r8) := by first | (rw [aU]; with_reducible exact H) | (have aY := (Option.bind_some _ _).symm.trans H; rw [aU]; with_reducible exact aY) | (have aY := (Option.bind_some _ _).symm.trans H; with_reducible exact aY) | with_reducible exact H | (rw [aU]; exact H) | exact H
            have bq := Z aU
            clear aU
            by_cases aZ : a1 = 12
            ·rw [if_pos aZ] at H
             have eI : (a1 == 12) = true := beq_iff_eq.mpr aZ
             have eJ : (a1 != 12) = false := bne_eq_false_iff_eq.mpr aZ
             clear aZ
             by_cases be : (wrap64 (b + 1)) < (a.length : Int)
             ·rw [if_pos be] at H
              have cb : decide ((wrap64 (b + 1)) < (a.length : Int)) = true := decide_eq_true be
              clear be
              obtain ⟨E, aT⟩ : ∃ j_ : Int, (wrap64 (b + 1)) = j_ := ⟨_, rfl⟩
              replace H : (if 0 ≤ (E) then (if 0 ≤ (rd a (E)) then (if (rd a (E)) < (s.length : Int) then (wipe_Do.l0 k1 a1 a a (a.length : Int) E x y s l false z ae af (O.set ((rd a b) : Int).toNat (⟨(rd_T35 O (rd a b)).f0, (⟨(rd_T35 O (rd a b)).f1.f0, (rd_T35 O (rd a b)).f1.f1, (rd_T35 O (rd a b)).f1.f2, (rd_T35 O (rd a b)).f1.f3⟩ : S33), (rd_T35 s (rd a (E))).f2⟩ : S35)) ag ah ai) else (none)) else (none)) else (none)) = some (r1, r2, r3, r4, r5, r6, (none : Option Er), r8) := by first | (rw [aT] at H; exact H) | (simp only [aT] at H ⊢; exact H)
              (try rw [aT] at cb)
              have g4 : (IntKind.i64.wrap (b + 1)) = E := (i64_w _).trans aT
              by_cases cc : 0 ≤ (E)
              ·rw [if_pos cc] at H
               have hc : decide (0 ≤ (E)) = true := decide_eq_true cc
               clear cc
               by_cases cd : 0 ≤ (rd a (E))
               ·rw [if_pos cd] at H
                have he : decide (0 ≤ (rd a (E))) = true := decide_eq_true cd
                clear cd
                by_cases ce : (rd a (E)) < (s.length : Int)
                ·rw [if_pos ce] at H
                 have hf : decide ((rd a (E)) < (s.length : Int)) = true := decide_eq_true ce
                 clear ce
                 obtain ⟨eC, aV⟩ : ∃ y_ : List (S35), y_ = (O.set ((rd a b) : Int).toNat (⟨(rd_T35 O (rd a b)).f0, (⟨(rd_T35 O (rd a b)).f1.f0, (rd_T35 O (rd a b)).f1.f1, (rd_T35 O (rd a b)).f1.f2, (rd_T35 O (rd a b)).f1.f3⟩ : S33), (rd_T35 s (rd a (E))).f2⟩ : S35)) := ⟨_, rfl⟩
                 replace H : (wipe_Do.l0 k1 a1 a a (a.length : Int) E x y s l false z ae af eC ag ah ai) = some (r1, r2, r3, r4, r5, r6, (none : Option Er), r8) := by first | (rw [aV]; with_reducible exact H) | (have aY := (Option.bind_some _ _).symm.trans H; rw [aV]; with_reducible exact aY) | (have aY := (Option.bind_some _ _).symm.trans H; with_reducible exact aY) | with_reducible exact H | (rw [aV]; exact H) | exact H
                 have eF := Z aV
                 clear aV
                 have H' := Z H
                 clear H
                 have az : 0 ≤ (b : Int) := od_
                 have aA : b < (a.length : Int) := od_
                 obtain ⟨ar, a2, bf⟩ := Kd.at_int (Kd.Q_reads' HO_45.out).2.2 b az aA
                 cases a2
                 replace az := eq_true az
                 replace aA := eq_true aA
                 have hp := au.out
                 have hF := an.out
                 have hq := av.out
                 have hG := ap.out
                 obtain ⟨ff, fg, fh, fi, fj, fk, gb, gc, gd, ge, gf, gg⟩ := cells6 F.out
                 have p39 : 0 ≤ ((rd a b) : Int) := od_
                 have aP : ((rd a b) : Int) < ((c.length : Int) : Int) := od_
                 obtain ⟨m, aa, aM, aN, a3, dT, aL⟩ := Kd.R_form HO_753002.out (by omega)
                 (first | cases aM | (injection aM with ea_ en_ ec_; (first | subst ea_ | (injection ea_ with ea_; subst ea_)); subst ec_; clear en_))
                 have aW := Z aN
                 have ax := Z aL
                 clear aN a3 aL
                 obtain ⟨dS, aS, aO, X, Y⟩ := Kd.R_elem HO_753002.out z35 ((rd a b) : Int) p39 aP
                 obtain rfl := k35_openM aO
                 have bL : wr.cell? ⟨m, ((rd a b) : Int).toNat * 6, none⟩ = some (.bool ((rd_T35 c (rd a b)).f0)) := X 0 _ rfl
                 have bM : wr.cell? ⟨m, ((rd a b) : Int).toNat * 6 + 1, none⟩ = some (.bool ((rd_T35 c (rd a b)).f1.f0)) := X 1 _ rfl
                 have bN : wr.cell? ⟨m, ((rd a b) : Int).toNat * 6 + 2, none⟩ = some (.bool ((rd_T35 c (rd a b)).f1.f1)) := X 2 _ rfl
                 have bO : wr.cell? ⟨m, ((rd a b) : Int).toNat * 6 + 3, none⟩ = some (.int .i64 ((rd_T35 c (rd a b)).f1.f2)) := X 3 _ rfl
                 have bP : wr.cell? ⟨m, ((rd a b) : Int).toNat * 6 + 4, none⟩ = some (.bool ((rd_T35 c (rd a b)).f1.f3)) := X 4 _ rfl
                 have bQ : wr.cell? ⟨m, ((rd a b) : Int).toNat * 6 + 5, none⟩ = some (.int .u8 ((rd_T35 c (rd a b)).f2)) := X 5 _ rfl
                 have bF : wr.frozen? ⟨m, ((rd a b) : Int).toNat * 6, none⟩ = false := Y 0
                 have bG : wr.frozen? ⟨m, ((rd a b) : Int).toNat * 6 + 1, none⟩ = false := Y 1
                 have bH : wr.frozen? ⟨m, ((rd a b) : Int).toNat * 6 + 2, none⟩ = false := Y 2
                 have bI : wr.frozen? ⟨m, ((rd a b) : Int).toNat * 6 + 3, none⟩ = false := Y 3
                 have bJ : wr.frozen? ⟨m, ((rd a b) : Int).toNat * 6 + 4, none⟩ = false := Y 4
                 have bK : wr.frozen? ⟨m, ((rd a b) : Int).toNat * 6 + 5, none⟩ = false := Y 5
                 clear aS X Y aO
                 replace p39 := eq_true p39
                 replace aP := eq_true aP
                 have dN := Z (show Kd.R k35 35 wr w.heap.size (fun k_ => (w.heap.size ≤ k_)) (.slice (some ⟨m, 0, none⟩) c.length aa) c from (by (with_reducible repeat apply pR); exact HO_753002.out))
                 obtain ⟨hT, cg, dZ, br, ck⟩ := Kd.R_elem dN.out z35 ((rd a b) : Int) (od_) (by have h_ : ((rd a b) : Int) < ((c.length : Int) : Int) := od_; first | exact h_ | (have e_ := (Kd.R_reads' HO_753002.out).1; omega) | simpa using h_)
                 obtain rfl := k35_openM dZ
                 have bT := Kd.R_seg dN.out ((rd a b) : Int) (od_) (by have h_ : ((rd a b) : Int) < ((c.length : Int) : Int) := od_; first | exact h_ | (have e_ := (Kd.R_reads' HO_753002.out).1; omega) | simpa using h_) (seg := [.int .u8 0]) (j := 5) cg br (show 6 ≤ 6 from by decide) (x' := (⟨(rd_T35 c (rd a b)).f0, (⟨(rd_T35 c (rd a b)).f1.f0, (rd_T35 c (rd a b)).f1.f1, (rd_T35 c (rd a b)).f1.f2, (rd_T35 c (rd a b)).f1.f3⟩ : S33), 0⟩ : S35)) (k35_mkM _ _ _ (⟨(rd_T35 c (rd a b)).f0, (⟨(rd_T35 c (rd a b)).f1.f0, (rd_T35 c (rd a b)).f1.f1, (rd_T35 c (rd a b)).f1.f2, (rd_T35 c (rd a b)).f1.f3⟩ : S33), 0⟩ : S35) ) (fun _ hk => hk)
                 have ei := br 5 _ rfl
                 (try simp only [show (k35).sz = 6 from rfl, Nat.mul_one, Nat.add_zero] at ei)
                 have d9 := ck 5
                 (try simp only [show (k35).sz = 6 from rfl, Nat.mul_one, Nat.add_zero] at d9)
                 clear cg br ck dZ
                 try go_wp2_with (first | ((with_reducible refine gate_store (t := 5) (p := 56) rfl ?_); refine sx_ 5 56 (wr.setCell ⟨m, ((rd a b) : Int).toNat * 6 + 5, none⟩ (.int .u8 0)) ?_; intro bR hw; have hg : wr.grownBy bR (some m) := (by rw [hw]; exact bT.2); have hp_ : Kd.R k35 35 bR w.heap.size (fun k_ => (w.heap.size ≤ k_)) (.slice (some ⟨m, 0, none⟩) c.length aa) O := (by rw [hw, bq.out]; exact bT.1); clear bT; replace HO_6 := Z (Kd.Q_over' (v := (.slice (some ⟨m, 0, none⟩) c.length aa)) (by (with_reducible repeat (first | apply Kd.Q_alloc | apply Kd.Q_drewN | apply Kd.Q_drew)); exact HO_6.out) (Kd.R_typed HO_753002.out) (by decide) hg); replace HO_45 := Z (Kd.Q_over' (v := (.slice (some ⟨m, 0, none⟩) c.length aa)) (by (with_reducible repeat (first | apply Kd.Q_alloc | apply Kd.Q_drewN | apply Kd.Q_drew)); exact HO_45.out) (Kd.R_typed HO_753002.out) (by decide) hg); replace HO_718002 := Z (Kd.V_afterv (v := (.slice (some ⟨m, 0, none⟩) c.length aa)) (v1 := (.slice (some ⟨m, 0, none⟩) c.length aa)) (ok := (fun k_ => (aq k_ ∨ w.heap.size ≤ k_) ∧ some k_ ≠ (.slice (some ar) a.length aB : Value).ownBlock ∧ some k_ ≠ (.slice (some ar) a.length aB : Value).ownBlock ∧ k_ ≠ P ∧ k_ ≠ B ∧ k_ ≠ D)) (by (with_reducible repeat apply pV); exact Kd.V_mono HO_718002.out (fun _ hk => ⟨⟨hk.1, ⟨hk.2.1, ⟨hk.2.2.1, ⟨hk.2.2.2.2.1, ⟨hk.2.2.2.2.2.1, hk.2.2.2.2.2.2⟩⟩⟩⟩⟩, hk.2.2.2.1⟩)) hg (.inl rfl)); replace d := Z (blk_grown (g := P) (o := .cells #[.int .i64 x, .int .i64 y, u718002, .int .i64 l, .bool false, .bool z] 24 (0, 0)) (vK d.out) hg (Kd.R_ne HO_753002.out d.out (by decide))); replace q := Z (blk_grown (g := B) (o := .cells #[.int .i64 0, .int .i64 0, .slice none 0 0, .int .i64 0, .bool false, .bool false] 24 (0, 0)) (vK q.out) hg (Kd.R_ne HO_753002.out q.out (by decide))); replace F := Z (blk_grown (g := D) (o := .cells #[.int .i64 ae, .int .i64 af, .slice (some ⟨m, 0, none⟩) c.length aa, .int .i64 ag, .bool ah, .bool ai] 24 (0, 0)) (vK F.out) hg (Kd.R_ne HO_753002.out F.out (by decide))); replace HO_753002 := Z (hp_); replace HB := Z ((by rw [hw]; exact below_set (HB.out) aW.out : Below w.heap.size w bR)); (try (replace ax := Z (show bR.heap[m]? = some (.cells _ _ (0, 0)) by rw [hw]; exact blk_set ax.out _ _))); clear hg hw hp_))
                 have G := Z (Kd.Q_drew HO_6.out)
                 have I := Z (Kd.Q_drew HO_45.out)
                 have J := Z (Kd.V_drew HO_718002.out)
                 have L := Z (Kd.R_drew HO_753002.out)
                 have U := Z (blk_drew d.out)
                 have ab := Z (blk_drew q.out)
                 have aj := Z (blk_drew F.out)
                 have ak := Z (below_drew1 HB.out)
                 clear HO_6
                 clear HO_45
                 clear HO_718002
                 clear HO_753002
                 clear d
                 clear q
                 clear F
                 clear HB
                 have HO_6 := G
                 have HO_45 := I
                 have HO_718002 := J
                 have HO_753002 := L
                 have d := U
                 have q := ab
                 have F := aj
                 have HB := ak
                 clear G I J L U ab aj ak
                 have bY : 0 ≤ ((E) : Int) := od_
                 have b0 : (E) < (a.length : Int) := od_
                 obtain ⟨eG, eX, bg⟩ := Kd.at_int (Kd.Q_reads' HO_6.out).2.2 (E) bY b0
                 obtain rfl : ar = eG := (by injection eX)
                 replace bY := eq_true bY
                 replace b0 := eq_true b0
                 obtain ⟨hR, dV, dX⟩ := Kd.V_slice HO_718002.out
                 (first | subst dX | (injection dX with eQ g1 eR; have g2 := eQ.symm; have g3 := eR.symm; clear eQ g1 eR; subst g2; subst g3))
                 have bZ : 0 ≤ ((rd a (E)) : Int) := od_
                 have b1 : (rd a (E)) < (s.length : Int) := od_
                 obtain ⟨al, eY, bh, bi, bj, bk, bl, bm⟩ := at_T35 (Kd.V_reads' HO_718002.out).2.2 (rd a (E)) bZ b1
                 cases eY
                 replace bZ := eq_true bZ
                 replace b1 := eq_true b1
                 have p46 : 0 ≤ ((rd a b) : Int) := od_
                 have eo : ((rd a b) : Int) < ((c.length : Int) : Int) := od_
                 obtain ⟨hS, eK, dY, aD, aE⟩ := Kd.R_elem HO_753002.out z35 ((rd a b) : Int) p46 eo
                 obtain rfl := k35_openM dY
                 have ec : World.cell? _ ⟨m, ((rd a b) : Int).toNat * 6, none⟩ = some (.bool ((rd_T35 O (rd a b)).f0)) := aD 0 _ rfl
                 have ed : World.cell? _ ⟨m, ((rd a b) : Int).toNat * 6 + 1, none⟩ = some (.bool ((rd_T35 O (rd a b)).f1.f0)) := aD 1 _ rfl
                 have ee : World.cell? _ ⟨m, ((rd a b) : Int).toNat * 6 + 2, none⟩ = some (.bool ((rd_T35 O (rd a b)).f1.f1)) := aD 2 _ rfl
                 have ef : World.cell? _ ⟨m, ((rd a b) : Int).toNat * 6 + 3, none⟩ = some (.int .i64 ((rd_T35 O (rd a b)).f1.f2)) := aD 3 _ rfl
                 have eg : World.cell? _ ⟨m, ((rd a b) : Int).toNat * 6 + 4, none⟩ = some (.bool ((rd_T35 O (rd a b)).f1.f3)) := aD 4 _ rfl
                 have eh : World.cell? _ ⟨m, ((rd a b) : Int).toNat * 6 + 5, none⟩ = some (.int .u8 ((rd_T35 O (rd a b)).f2)) := aD 5 _ rfl
                 have d3 : World.frozen? _ ⟨m, ((rd a b) : Int).toNat * 6, none⟩ = false := aE 0
                 have d4 : World.frozen? _ ⟨m, ((rd a b) : Int).toNat * 6 + 1, none⟩ = false := aE 1
                 have d5 : World.frozen? _ ⟨m, ((rd a b) : Int).toNat * 6 + 2, none⟩ = false := aE 2
                 have d6 : World.frozen? _ ⟨m, ((rd a b) : Int).toNat * 6 + 3, none⟩ = false := aE 3
                 have d7 : World.frozen? _ ⟨m, ((rd a b) : Int).toNat * 6 + 4, none⟩ = false := aE 4
                 have d8 : World.frozen? _ ⟨m, ((rd a b) : Int).toNat * 6 + 5, none⟩ = false := aE 5
                 clear eK aD aE dY
                 replace p46 := eq_true p46
                 replace eo := eq_true eo
                 obtain ⟨hU, ch, d0, cf, eL⟩ := Kd.R_elem HO_753002.out z35 ((rd a b) : Int) (od_) (by have h_ : ((rd a b) : Int) < ((c.length : Int) : Int) := od_; first | exact h_ | (have e_ := (Kd.R_reads' HO_753002.out).1; omega) | simpa using h_)
                 obtain rfl := k35_openM d0
                 have bU := (Kd.R_seg HO_753002.out ((rd a b) : Int) (od_) (by have h_ : ((rd a b) : Int) < ((c.length : Int) : Int) := od_; first | exact h_ | (have e_ := (Kd.R_reads' HO_753002.out).1; omega) | simpa using h_) (seg := [.int .u8 ((rd_T35 s (rd a (E))).f2)]) (j := 5) ch cf (show 6 ≤ 6 from by decide) (x' := (⟨(rd_T35 O (rd a b)).f0, (⟨(rd_T35 O (rd a b)).f1.f0, (rd_T35 O (rd a b)).f1.f1, (rd_T35 O (rd a b)).f1.f2, (rd_T35 O (rd a b)).f1.f3⟩ : S33), (rd_T35 s (rd a (E))).f2⟩ : S35)) (k35_mkM _ _ _ (⟨(rd_T35 O (rd a b)).f0, (⟨(rd_T35 O (rd a b)).f1.f0, (rd_T35 O (rd a b)).f1.f1, (rd_T35 O (rd a b)).f1.f2, (rd_T35 O (rd a b)).f1.f3⟩ : S33), (rd_T35 s (rd a (E))).f2⟩ : S35) ) (fun _ hk => hk)).1
                 rw [← eF.out] at bU
                 have dM := Z bU
                 clear ch cf eL d0 bU
                 refine start_ (n := 16) (S := fun w' => w'.cell? ⟨D, 0, none⟩ = some (.int .i64 ae) ∧ w'.cell? ⟨D, 1, none⟩ = some (.int .i64 af) ∧ w'.cell? ⟨D, 2, none⟩ = some (.slice (some ⟨m, 0, none⟩) c.length aa) ∧ w'.cell? ⟨D, 3, none⟩ = some (.int .i64 ag) ∧ w'.cell? ⟨D, 4, none⟩ = some (.bool ah) ∧ w'.cell? ⟨D, 5, none⟩ = some (.bool ai) ∧ w'.cell? ⟨P, 0, none⟩ = some (.int .i64 x) ∧ w'.cell? ⟨P, 1, none⟩ = some (.int .i64 y) ∧ w'.cell? ⟨P, 2, none⟩ = some (.slice (some al) s.length dV) ∧ w'.cell? ⟨P, 3, none⟩ = some (.int .i64 l) ∧ w'.cell? ⟨P, 4, none⟩ = some (.bool false) ∧ w'.cell? ⟨P, 5, none⟩ = some (.bool z) ∧ w'.cell? (ar.add ((E)).toNat) = some (.int .i64 (rd a (E))) ∧ w'.cell? (al.add (((rd a (E))).toNat * 6)) = some (.bool ((rd_T35 s (rd a (E))).f0)) ∧ w'.cell? ⟨(al.add (((rd a (E))).toNat * 6)).block, (al.add (((rd a (E))).toNat * 6)).off + 1, none⟩ = some (.bool ((rd_T35 s (rd a (E))).f1.f0)) ∧ w'.cell? ⟨(al.add (((rd a (E))).toNat * 6)).block, (al.add (((rd a (E))).toNat * 6)).off + 2, none⟩ = some (.bool ((rd_T35 s (rd a (E))).f1.f1)) ∧ w'.cell? ⟨(al.add (((rd a (E))).toNat * 6)).block, (al.add (((rd a (E))).toNat * 6)).off + 3, none⟩ = some (.int .i64 ((rd_T35 s (rd a (E))).f1.f2)) ∧ w'.cell? ⟨(al.add (((rd a (E))).toNat * 6)).block, (al.add (((rd a (E))).toNat * 6)).off + 4, none⟩ = some (.bool ((rd_T35 s (rd a (E))).f1.f3)) ∧ w'.cell? ⟨(al.add (((rd a (E))).toNat * 6)).block, (al.add (((rd a (E))).toNat * 6)).off + 5, none⟩ = some (.int .u8 ((rd_T35 s (rd a (E))).f2))) (ds := [15]) (bv 16 0) (by kernel_rfl) rfl rfl ⟨(blk_cell F.out 0).trans rfl, (blk_cell F.out 1).trans rfl, (blk_cell F.out 2).trans rfl, (blk_cell F.out 3).trans rfl, (blk_cell F.out 4).trans rfl, (blk_cell F.out 5).trans rfl, (blk_cell d.out 0).trans rfl, (blk_cell d.out 1).trans rfl, (blk_cell d.out 2).trans rfl, (blk_cell d.out 3).trans rfl, (blk_cell d.out 4).trans rfl, (blk_cell d.out 5).trans rfl, bg, bh, bi, bj, bk, bl, bm⟩ (fun hHeld => ?_); refine with_tabW wipe_Do.tab16 wipe_Do.bits16 (fun HT_ HW_ => ?_)
                 (replace ax := Z (blk_drew ax.out)); generalize bR.drew = ih at ax HO_6 HO_45 HO_718002 HO_753002 d q F HB dM d3 d4 d5 d6 d7 d8 ec ed ee ef eg eh bg bh bi bj bk bl bm hHeld ⊢
                 refine pure_ (i := 0) (N := some 66) (v := ?_) (a' := ?_) (bv 16 1) rfl rfl (any_of HT_.out (by kernel_rfl)) (fun _ _ _ h => h) (Or.inl ⟨by rfl, ?_⟩) ?_ ?_
                 rotate_left
                 ·intro w'
                  go_simp
                  with_reducible rfl
                 rotate_left
                 ·simp only [Act.put, sA, sB, sC, i64_w, i32_w]
                  rfl
                 refine pure_ (i := 2) (N := some 68) (v := ?_) (a' := ?_) (bv 16 5) rfl rfl (any_of HT_.out (by kernel_rfl)) (fun _ _ _ h => h) (Or.inl ⟨by rfl, ?_⟩) ?_ ?_
                 rotate_left
                 ·intro w'
                  go_simp
                  with_reducible rfl
                 rotate_left
                 ·simp only [Act.put, sA, sB, sC, i64_w, i32_w]
                  rfl
                 refine pure_ (i := 3) (N := some 69) (v := ?_) (a' := ?_) (bv 16 13) rfl rfl (any_of HT_.out (by kernel_rfl)) (fun _ _ _ h => h) (Or.inl ⟨by rfl, ?_⟩) ?_ ?_
                 rotate_left
                 ·intro w'
                  go_simp
                  with_reducible rfl
                 rotate_left
                 ·simp only [Act.put, sA, sB, sC, i64_w, i32_w]
                  rfl
                 refine pure_ (i := 5) (N := some 71) (v := ?_) (a' := ?_) (bv 16 45) rfl rfl (any_of HT_.out (by kernel_rfl)) (fun _ _ _ h => h) (Or.inl ⟨by rfl, ?_⟩) ?_ ?_
                 rotate_left
                 ·intro w'
                  go_simp
                  with_reducible rfl
                 rotate_left
                 ·simp only [Act.put, sA, sB, sC, i64_w, i32_w]
                  rfl
                 refine pure_ (i := 6) (N := some 72) (v := ?_) (a' := ?_) (bv 16 109) rfl rfl (any_of HT_.out (by kernel_rfl)) (fun _ _ _ h => h) (Or.inl ⟨by rfl, ?_⟩) ?_ ?_
                 rotate_left
                 ·intro w'
                  go_simp
                  with_reducible rfl
                 rotate_left
                 ·simp only [Act.put, sA, sB, sC, i64_w, i32_w]
                  rfl
                 refine pure_ (i := 7) (N := some 73) (v := ?_) (a' := ?_) (bv 16 237) rfl rfl (any_of HT_.out (by kernel_rfl)) (fun _ _ _ h => h) (Or.inl ⟨by rfl, ?_⟩) ?_ ?_
                 rotate_left
                 ·intro w'
                  go_simp
                  with_reducible rfl
                 rotate_left
                 ·simp only [Act.put, sA, sB, sC, i64_w, i32_w]
                  rfl
                 refine pure_ (i := 8) (N := some 74) (v := ?_) (a' := ?_) (bv 16 493) rfl rfl (any_of HT_.out (by kernel_rfl)) (fun _ _ _ h => h) (Or.inl ⟨by rfl, ?_⟩) ?_ ?_
                 rotate_left
                 ·intro w'
                  go_simp
                  with_reducible rfl
                 rotate_left
                 ·simp only [Act.put, sA, sB, sC, i64_w, i32_w]
                  rfl
                 refine take_ (i := 1) (N := some 67) (v := ?_) (a' := ?_) (bv 16 495) rfl rfl (take_ofW HT_.out HW_.out (by kernel_rfl)) (fun _ _ _ h => h) (Or.inl ⟨by rfl, ?_⟩) hHeld ?_ ?_
                 rotate_left
                 ·rintro w' ⟨s0, s1, s2, s3, s4, s5, s6, s7, s8, s9, ep, eq, er, es, et, eu, ev, ew, ex⟩
                  go_simp
                  with_reducible rfl
                 rotate_left
                 ·simp only [Act.put, sA, sB, sC, i64_w, i32_w]
                  rfl
                 refine take_ (i := 4) (N := some 70) (v := ?_) (a' := ?_) (bv 16 511) rfl rfl (take_ofW HT_.out HW_.out (by kernel_rfl)) (fun _ _ _ h => h) (Or.inl ⟨by rfl, ?_⟩) hHeld ?_ ?_
                 rotate_left
                 ·rintro w' ⟨s0, s1, s2, s3, s4, s5, s6, s7, s8, s9, ep, eq, er, es, et, eu, ev, ew, ex⟩
                  go_simp
                  with_reducible rfl
                 rotate_left
                 ·simp only [Act.put, sA, sB, sC, i64_w, i32_w]
                  rfl
                 refine take_ (i := 9) (N := some 75) (v := ?_) (a' := ?_) (bv 16 1023) rfl rfl (take_ofW HT_.out HW_.out (by kernel_rfl)) (fun _ _ _ h => h) (Or.inl ⟨by rfl, ?_⟩) hHeld ?_ ?_
                 rotate_left
                 ·rintro w' ⟨s0, s1, s2, s3, s4, s5, s6, s7, s8, s9, ep, eq, er, es, et, eu, ev, ew, ex⟩
                  go_simp
                  with_reducible rfl
                 rotate_left
                 ·simp only [Act.put, sA, sB, sC, i64_w, i32_w]
                  rfl
                 refine pure_ (i := 10) (N := some 76) (v := ?_) (a' := ?_) (bv 16 2047) rfl rfl (any_of HT_.out (by kernel_rfl)) (fun _ _ _ h => h) (Or.inl ⟨by rfl, ?_⟩) ?_ ?_
                 rotate_left
                 ·intro w'
                  go_simp
                  with_reducible rfl
                 rotate_left
                 ·simp only [Act.put, sA, sB, sC, i64_w, i32_w]
                  rfl
                 refine pure_ (i := 11) (N := some 77) (v := ?_) (a' := ?_) (bv 16 4095) rfl rfl (any_of HT_.out (by kernel_rfl)) (fun _ _ _ h => h) (Or.inl ⟨by rfl, ?_⟩) ?_ ?_
                 rotate_left
                 ·intro w'
                  go_simp
                  with_reducible rfl
                 rotate_left
                 ·simp only [Act.put, sA, sB, sC, i64_w, i32_w]
                  rfl
                 refine take_ (i := 12) (N := some 78) (v := ?_) (a' := ?_) (bv 16 8191) rfl rfl (take_ofW HT_.out HW_.out (by kernel_rfl)) (fun _ _ _ h => h) (Or.inl ⟨by rfl, ?_⟩) hHeld ?_ ?_
                 rotate_left
                 ·rintro w' ⟨s0, s1, s2, s3, s4, s5, s6, s7, s8, s9, ep, eq, er, es, et, eu, ev, ew, ex⟩
                  go_simp
                  with_reducible rfl
                 rotate_left
                 ·simp only [Act.put, sA, sB, sC, i64_w, i32_w]
                  rfl
                 refine pure_ (i := 13) (N := some 79) (v := ?_) (a' := ?_) (bv 16 16383) rfl rfl (any_of HT_.out (by kernel_rfl)) (fun _ _ _ h => h) (Or.inl ⟨by rfl, ?_⟩) ?_ ?_
                 rotate_left
                 ·intro w'
                  go_simp
                  with_reducible rfl
                 rotate_left
                 ·simp only [Act.put, sA, sB, sC, i64_w, i32_w]
                  rfl
                 refine pure_ (i := 14) (N := some 80) (v := ?_) (a' := ?_) (bv 16 32767) rfl rfl (any_of HT_.out (by kernel_rfl)) (fun _ _ _ h => h) (Or.inl ⟨by rfl, ?_⟩) ?_ ?_
                 rotate_left
                 ·intro w'
                  go_simp
                  with_reducible rfl
                 rotate_left
                 ·simp only [Act.put, sA, sB, sC, i64_w, i32_w]
                  rfl
                 refine last_ (i := 15) (N := none) (bv 16 65535) rfl rfl (one_of HT_.out (by kernel_rfl)) (by decide) (fun K hK => ?_)
                 refine skip_ (w1 := ?_) (by rfl) rfl ?_ ?_
                 rotate_left
                 ·go_simp
                  rfl
                 refine hK.out _ _ ?_
                 clear hK K
                 refine done_ (done_of HT_.out (by kernel_rfl)) ?_
                 try go_wp2
                 go_roundg k1
                 case measure => have := bc.out; omega
                 case rel => exact ⟨(E), (s), (eC), (.slice (some al) s.length dV), (.slice (some ⟨m, 0, none⟩) c.length aa), (by first | rfl | (simp; done) | (simp only [← aT] <;> (first | rfl | simp)) | (simp [*]; done)), H', ⟨by have := bc.out; omega⟩, ⟨by (with_reducible repeat (first | apply Kd.Q_alloc | apply Kd.Q_drewN | apply Kd.Q_drew)); exact Kd.Q_mono (Kd.Q_far (p := ⟨m, ((rd a b) : Int).toNat * 6 + 5, none⟩) (Kd.Q_types HO_6.out ax.out (by decide)) (fun _ hk => hk.2) (.int .u8 ((rd_T35 s (rd a (E))).f2))) (fun _ hk => hk.1)⟩, ⟨by (with_reducible repeat (first | apply Kd.Q_alloc | apply Kd.Q_drewN | apply Kd.Q_drew)); exact Kd.Q_mono (Kd.Q_far (p := ⟨m, ((rd a b) : Int).toNat * 6 + 5, none⟩) (Kd.Q_types HO_45.out ax.out (by decide)) (fun _ hk => hk.2) (.int .u8 ((rd_T35 s (rd a (E))).f2))) (fun _ hk => hk.1)⟩, ⟨by (with_reducible repeat apply pV); exact Kd.V_mono (Kd.V_far (p := ⟨m, ((rd a b) : Int).toNat * 6 + 5, none⟩) (Kd.V_mono HO_718002.out (fun k_ hk => (⟨hk, fun e_ => hk.2 (by rw [e_]; rfl)⟩ : _ ∧ k_ ≠ m))) (fun _ hk => hk.2) (.int .u8 ((rd_T35 s (rd a (E))).f2))) (fun _ hk => ⟨hk.1.1.1, ⟨hk.1.1.2.1, ⟨hk.1.1.2.2.1, ⟨hk.1.2, ⟨hk.1.1.2.2.2.1, ⟨hk.1.1.2.2.2.2.1, hk.1.1.2.2.2.2.2⟩⟩⟩⟩⟩⟩)⟩, ⟨by (with_reducible repeat apply pR); exact dM.out⟩, ⟨by (with_reducible repeat apply pK); refine blk_far ?_ (by have h_ := Kd.R_ne HO_753002.out d.out (by decide); intro e_; exact h_ (by rw [e_]; rfl)) _; (with_reducible repeat apply pK); exact d.out⟩, ⟨by (with_reducible repeat apply pK); refine blk_far ?_ (by have h_ := Kd.R_ne HO_753002.out q.out (by decide); intro e_; exact h_ (by rw [e_]; rfl)) _; (with_reducible repeat apply pK); exact q.out⟩, ⟨by (with_reducible repeat apply pK); refine blk_far ?_ (by have h_ := Kd.R_ne HO_753002.out F.out (by decide); intro e_; exact h_ (by rw [e_]; rfl)) _; (with_reducible repeat apply pK); exact F.out⟩, ⟨by repeat (first | (with_reducible first | exact HB.out | apply below_alloc | apply pw_below_drewN | apply below_drew1 | refine below_set ?_ aW.out | refine below_set ?_ bo.out | refine below_set ?_ bp.out | refine below_set ?_ eD.out) | exact HB.out)⟩⟩
                ·rw [if_neg ce] at H
                 exact absurd H (by simp)
               ·rw [if_neg cd] at H
                exact absurd H (by simp)
              ·rw [if_neg cc] at H
               exact absurd H (by simp)
             ·rw [if_neg be] at H
              have cb : decide ((wrap64 (b + 1)) < (a.length : Int)) = false := decide_eq_false be
              clear be
              have H' := Z H
              clear H
              have az : 0 ≤ (b : Int) := od_
              have aA : b < (a.length : Int) := od_
              obtain ⟨ar, a2, bf⟩ := Kd.at_int (Kd.Q_reads' HO_45.out).2.2 b az aA
              cases a2
              replace az := eq_true az
              replace aA := eq_true aA
              have hs := au.out
              have hH := an.out
              have ht := av.out
              have hI := ap.out
              obtain ⟨fl, fm, fn, fo, fp, fq, gh, gi, gj, gl, gm, gn⟩ := cells6 F.out
              have p39 : 0 ≤ ((rd a b) : Int) := od_
              have aP : ((rd a b) : Int) < ((c.length : Int) : Int) := od_
              obtain ⟨m, aa, aM, aN, a3, dT, aL⟩ := Kd.R_form HO_753002.out (by omega)
              (first | cases aM | (injection aM with ea_ en_ ec_; (first | subst ea_ | (injection ea_ with ea_; subst ea_)); subst ec_; clear en_))
              have aW := Z aN
              have ax := Z aL
              clear aN a3 aL
              obtain ⟨dS, aS, aO, X, Y⟩ := Kd.R_elem HO_753002.out z35 ((rd a b) : Int) p39 aP
              obtain rfl := k35_openM aO
              have bL : wr.cell? ⟨m, ((rd a b) : Int).toNat * 6, none⟩ = some (.bool ((rd_T35 c (rd a b)).f0)) := X 0 _ rfl
              have bM : wr.cell? ⟨m, ((rd a b) : Int).toNat * 6 + 1, none⟩ = some (.bool ((rd_T35 c (rd a b)).f1.f0)) := X 1 _ rfl
              have bN : wr.cell? ⟨m, ((rd a b) : Int).toNat * 6 + 2, none⟩ = some (.bool ((rd_T35 c (rd a b)).f1.f1)) := X 2 _ rfl
              have bO : wr.cell? ⟨m, ((rd a b) : Int).toNat * 6 + 3, none⟩ = some (.int .i64 ((rd_T35 c (rd a b)).f1.f2)) := X 3 _ rfl
              have bP : wr.cell? ⟨m, ((rd a b) : Int).toNat * 6 + 4, none⟩ = some (.bool ((rd_T35 c (rd a b)).f1.f3)) := X 4 _ rfl
              have bQ : wr.cell? ⟨m, ((rd a b) : Int).toNat * 6 + 5, none⟩ = some (.int .u8 ((rd_T35 c (rd a b)).f2)) := X 5 _ rfl
              have bF : wr.frozen? ⟨m, ((rd a b) : Int).toNat * 6, none⟩ = false := Y 0
              have bG : wr.frozen? ⟨m, ((rd a b) : Int).toNat * 6 + 1, none⟩ = false := Y 1
              have bH : wr.frozen? ⟨m, ((rd a b) : Int).toNat * 6 + 2, none⟩ = false := Y 2
              have bI : wr.frozen? ⟨m, ((rd a b) : Int).toNat * 6 + 3, none⟩ = false := Y 3
              have bJ : wr.frozen? ⟨m, ((rd a b) : Int).toNat * 6 + 4, none⟩ = false := Y 4
              have bK : wr.frozen? ⟨m, ((rd a b) : Int).toNat * 6 + 5, none⟩ = false := Y 5
              clear aS X Y aO
              replace p39 := eq_true p39
              replace aP := eq_true aP
              have dO := Z (show Kd.R k35 35 wr w.heap.size (fun k_ => (w.heap.size ≤ k_)) (.slice (some ⟨m, 0, none⟩) c.length aa) c from (by (with_reducible repeat apply pR); exact HO_753002.out))
              obtain ⟨hV, ci, d1, bs, cl⟩ := Kd.R_elem dO.out z35 ((rd a b) : Int) (od_) (by have h_ : ((rd a b) : Int) < ((c.length : Int) : Int) := od_; first | exact h_ | (have e_ := (Kd.R_reads' HO_753002.out).1; omega) | simpa using h_)
              obtain rfl := k35_openM d1
              have bV := Kd.R_seg dO.out ((rd a b) : Int) (od_) (by have h_ : ((rd a b) : Int) < ((c.length : Int) : Int) := od_; first | exact h_ | (have e_ := (Kd.R_reads' HO_753002.out).1; omega) | simpa using h_) (seg := [.int .u8 0]) (j := 5) ci bs (show 6 ≤ 6 from by decide) (x' := (⟨(rd_T35 c (rd a b)).f0, (⟨(rd_T35 c (rd a b)).f1.f0, (rd_T35 c (rd a b)).f1.f1, (rd_T35 c (rd a b)).f1.f2, (rd_T35 c (rd a b)).f1.f3⟩ : S33), 0⟩ : S35)) (k35_mkM _ _ _ (⟨(rd_T35 c (rd a b)).f0, (⟨(rd_T35 c (rd a b)).f1.f0, (rd_T35 c (rd a b)).f1.f1, (rd_T35 c (rd a b)).f1.f2, (rd_T35 c (rd a b)).f1.f3⟩ : S33), 0⟩ : S35) ) (fun _ hk => hk)
              have ej := bs 5 _ rfl
              (try simp only [show (k35).sz = 6 from rfl, Nat.mul_one, Nat.add_zero] at ej)
              have ea := cl 5
              (try simp only [show (k35).sz = 6 from rfl, Nat.mul_one, Nat.add_zero] at ea)
              clear ci bs cl d1
              go_wp2_with (first | ((with_reducible refine gate_store (t := 5) (p := 56) rfl ?_); refine sx_ 5 56 (wr.setCell ⟨m, ((rd a b) : Int).toNat * 6 + 5, none⟩ (.int .u8 0)) ?_; intro eB hw; have hg : wr.grownBy eB (some m) := (by rw [hw]; exact bV.2); have hp_ : Kd.R k35 35 eB w.heap.size (fun k_ => (w.heap.size ≤ k_)) (.slice (some ⟨m, 0, none⟩) c.length aa) O := (by rw [hw, bq.out]; exact bV.1); clear bV; replace HO_6 := Z (Kd.Q_over' (v := (.slice (some ⟨m, 0, none⟩) c.length aa)) (by (with_reducible repeat (first | apply Kd.Q_alloc | apply Kd.Q_drewN | apply Kd.Q_drew)); exact HO_6.out) (Kd.R_typed HO_753002.out) (by decide) hg); replace HO_45 := Z (Kd.Q_over' (v := (.slice (some ⟨m, 0, none⟩) c.length aa)) (by (with_reducible repeat (first | apply Kd.Q_alloc | apply Kd.Q_drewN | apply Kd.Q_drew)); exact HO_45.out) (Kd.R_typed HO_753002.out) (by decide) hg); replace HO_718002 := Z (Kd.V_afterv (v := (.slice (some ⟨m, 0, none⟩) c.length aa)) (v1 := (.slice (some ⟨m, 0, none⟩) c.length aa)) (ok := (fun k_ => (aq k_ ∨ w.heap.size ≤ k_) ∧ some k_ ≠ (.slice (some ar) a.length aB : Value).ownBlock ∧ some k_ ≠ (.slice (some ar) a.length aB : Value).ownBlock ∧ k_ ≠ P ∧ k_ ≠ B ∧ k_ ≠ D)) (by (with_reducible repeat apply pV); exact Kd.V_mono HO_718002.out (fun _ hk => ⟨⟨hk.1, ⟨hk.2.1, ⟨hk.2.2.1, ⟨hk.2.2.2.2.1, ⟨hk.2.2.2.2.2.1, hk.2.2.2.2.2.2⟩⟩⟩⟩⟩, hk.2.2.2.1⟩)) hg (.inl rfl)); replace d := Z (blk_grown (g := P) (o := .cells #[.int .i64 x, .int .i64 y, u718002, .int .i64 l, .bool false, .bool z] 24 (0, 0)) (vK d.out) hg (Kd.R_ne HO_753002.out d.out (by decide))); replace q := Z (blk_grown (g := B) (o := .cells #[.int .i64 0, .int .i64 0, .slice none 0 0, .int .i64 0, .bool false, .bool false] 24 (0, 0)) (vK q.out) hg (Kd.R_ne HO_753002.out q.out (by decide))); replace F := Z (blk_grown (g := D) (o := .cells #[.int .i64 ae, .int .i64 af, .slice (some ⟨m, 0, none⟩) c.length aa, .int .i64 ag, .bool ah, .bool ai] 24 (0, 0)) (vK F.out) hg (Kd.R_ne HO_753002.out F.out (by decide))); replace HO_753002 := Z (hp_); replace HB := Z ((by rw [hw]; exact below_set (HB.out) aW.out : Below w.heap.size w eB)); clear hg hw hp_))
              go_roundg k1
              case measure => have := bc.out; omega
              case rel => exact ⟨(wrap64 (b + 1)), (s), (O), (u718002), (.slice (some ⟨m, 0, none⟩) c.length aa), (dn_), H', ⟨by have := bc.out; omega⟩, ⟨by (with_reducible repeat (first | apply Kd.Q_alloc | apply Kd.Q_drewN | apply Kd.Q_drew)); exact HO_6.out⟩, ⟨by (with_reducible repeat (first | apply Kd.Q_alloc | apply Kd.Q_drewN | apply Kd.Q_drew)); exact HO_45.out⟩, ⟨by (with_reducible repeat apply pV); exact Kd.V_mono HO_718002.out (fun _ hk => ⟨hk.1.1, ⟨hk.1.2.1, ⟨hk.1.2.2.1, ⟨hk.2, ⟨hk.1.2.2.2.1, ⟨hk.1.2.2.2.2.1, hk.1.2.2.2.2.2⟩⟩⟩⟩⟩⟩)⟩, ⟨by (with_reducible repeat apply pR); exact HO_753002.out⟩, ⟨vK d.out⟩, ⟨vK q.out⟩, ⟨vK F.out⟩, ⟨bl_⟩⟩
            ·rw [if_neg aZ] at H
             have eI : (a1 == 12) = false := beq_eq_false_iff_ne.mpr aZ
             have eJ : (a1 != 12) = true := bne_iff_ne.mpr aZ
             have H' := Z H
             clear H
             have az : 0 ≤ (b : Int) := od_
             have aA : b < (a.length : Int) := od_
             obtain ⟨ar, a2, bf⟩ := Kd.at_int (Kd.Q_reads' HO_45.out).2.2 b az aA
             cases a2
             replace az := eq_true az
             replace aA := eq_true aA
             have hu := au.out
             have hJ := an.out
             have hv := av.out
             have hL := ap.out
             obtain ⟨fr, fs, ft, fu, fv, fw, go, gp, gq, gr, gs, gt⟩ := cells6 F.out
             have p39 : 0 ≤ ((rd a b) : Int) := od_
             have aP : ((rd a b) : Int) < ((c.length : Int) : Int) := od_
             obtain ⟨m, aa, aM, aN, a3, dT, aL⟩ := Kd.R_form HO_753002.out (by omega)
             (first | cases aM | (injection aM with ea_ en_ ec_; (first | subst ea_ | (injection ea_ with ea_; subst ea_)); subst ec_; clear en_))
             have aW := Z aN
             have ax := Z aL
             clear aN a3 aL
             obtain ⟨dS, aS, aO, X, Y⟩ := Kd.R_elem HO_753002.out z35 ((rd a b) : Int) p39 aP
             obtain rfl := k35_openM aO
             have bL : wr.cell? ⟨m, ((rd a b) : Int).toNat * 6, none⟩ = some (.bool ((rd_T35 c (rd a b)).f0)) := X 0 _ rfl
             have bM : wr.cell? ⟨m, ((rd a b) : Int).toNat * 6 + 1, none⟩ = some (.bool ((rd_T35 c (rd a b)).f1.f0)) := X 1 _ rfl
             have bN : wr.cell? ⟨m, ((rd a b) : Int).toNat * 6 + 2, none⟩ = some (.bool ((rd_T35 c (rd a b)).f1.f1)) := X 2 _ rfl
             have bO : wr.cell? ⟨m, ((rd a b) : Int).toNat * 6 + 3, none⟩ = some (.int .i64 ((rd_T35 c (rd a b)).f1.f2)) := X 3 _ rfl
             have bP : wr.cell? ⟨m, ((rd a b) : Int).toNat * 6 + 4, none⟩ = some (.bool ((rd_T35 c (rd a b)).f1.f3)) := X 4 _ rfl
             have bQ : wr.cell? ⟨m, ((rd a b) : Int).toNat * 6 + 5, none⟩ = some (.int .u8 ((rd_T35 c (rd a b)).f2)) := X 5 _ rfl
             have bF : wr.frozen? ⟨m, ((rd a b) : Int).toNat * 6, none⟩ = false := Y 0
             have bG : wr.frozen? ⟨m, ((rd a b) : Int).toNat * 6 + 1, none⟩ = false := Y 1
             have bH : wr.frozen? ⟨m, ((rd a b) : Int).toNat * 6 + 2, none⟩ = false := Y 2
             have bI : wr.frozen? ⟨m, ((rd a b) : Int).toNat * 6 + 3, none⟩ = false := Y 3
             have bJ : wr.frozen? ⟨m, ((rd a b) : Int).toNat * 6 + 4, none⟩ = false := Y 4
             have bK : wr.frozen? ⟨m, ((rd a b) : Int).toNat * 6 + 5, none⟩ = false := Y 5
             clear aS X Y aO
             replace p39 := eq_true p39
             replace aP := eq_true aP
             have dP := Z (show Kd.R k35 35 wr w.heap.size (fun k_ => (w.heap.size ≤ k_)) (.slice (some ⟨m, 0, none⟩) c.length aa) c from (by (with_reducible repeat apply pR); exact HO_753002.out))
             obtain ⟨hW, cj, d2, bt, cm⟩ := Kd.R_elem dP.out z35 ((rd a b) : Int) (od_) (by have h_ : ((rd a b) : Int) < ((c.length : Int) : Int) := od_; first | exact h_ | (have e_ := (Kd.R_reads' HO_753002.out).1; omega) | simpa using h_)
             obtain rfl := k35_openM d2
             have bW := Kd.R_seg dP.out ((rd a b) : Int) (od_) (by have h_ : ((rd a b) : Int) < ((c.length : Int) : Int) := od_; first | exact h_ | (have e_ := (Kd.R_reads' HO_753002.out).1; omega) | simpa using h_) (seg := [.int .u8 0]) (j := 5) cj bt (show 6 ≤ 6 from by decide) (x' := (⟨(rd_T35 c (rd a b)).f0, (⟨(rd_T35 c (rd a b)).f1.f0, (rd_T35 c (rd a b)).f1.f1, (rd_T35 c (rd a b)).f1.f2, (rd_T35 c (rd a b)).f1.f3⟩ : S33), 0⟩ : S35)) (k35_mkM _ _ _ (⟨(rd_T35 c (rd a b)).f0, (⟨(rd_T35 c (rd a b)).f1.f0, (rd_T35 c (rd a b)).f1.f1, (rd_T35 c (rd a b)).f1.f2, (rd_T35 c (rd a b)).f1.f3⟩ : S33), 0⟩ : S35) ) (fun _ hk => hk)
             have ek := bt 5 _ rfl
             (try simp only [show (k35).sz = 6 from rfl, Nat.mul_one, Nat.add_zero] at ek)
             have eb := cm 5
             (try simp only [show (k35).sz = 6 from rfl, Nat.mul_one, Nat.add_zero] at eb)
             clear cj bt cm d2
             go_wp2_with (first | ((with_reducible refine gate_store (t := 5) (p := 56) rfl ?_); refine sx_ 5 56 (wr.setCell ⟨m, ((rd a b) : Int).toNat * 6 + 5, none⟩ (.int .u8 0)) ?_; intro w64 hw; have hg : wr.grownBy w64 (some m) := (by rw [hw]; exact bW.2); have hp_ : Kd.R k35 35 w64 w.heap.size (fun k_ => (w.heap.size ≤ k_)) (.slice (some ⟨m, 0, none⟩) c.length aa) O := (by rw [hw, bq.out]; exact bW.1); clear bW; replace HO_6 := Z (Kd.Q_over' (v := (.slice (some ⟨m, 0, none⟩) c.length aa)) (by (with_reducible repeat (first | apply Kd.Q_alloc | apply Kd.Q_drewN | apply Kd.Q_drew)); exact HO_6.out) (Kd.R_typed HO_753002.out) (by decide) hg); replace HO_45 := Z (Kd.Q_over' (v := (.slice (some ⟨m, 0, none⟩) c.length aa)) (by (with_reducible repeat (first | apply Kd.Q_alloc | apply Kd.Q_drewN | apply Kd.Q_drew)); exact HO_45.out) (Kd.R_typed HO_753002.out) (by decide) hg); replace HO_718002 := Z (Kd.V_afterv (v := (.slice (some ⟨m, 0, none⟩) c.length aa)) (v1 := (.slice (some ⟨m, 0, none⟩) c.length aa)) (ok := (fun k_ => (aq k_ ∨ w.heap.size ≤ k_) ∧ some k_ ≠ (.slice (some ar) a.length aB : Value).ownBlock ∧ some k_ ≠ (.slice (some ar) a.length aB : Value).ownBlock ∧ k_ ≠ P ∧ k_ ≠ B ∧ k_ ≠ D)) (by (with_reducible repeat apply pV); exact Kd.V_mono HO_718002.out (fun _ hk => ⟨⟨hk.1, ⟨hk.2.1, ⟨hk.2.2.1, ⟨hk.2.2.2.2.1, ⟨hk.2.2.2.2.2.1, hk.2.2.2.2.2.2⟩⟩⟩⟩⟩, hk.2.2.2.1⟩)) hg (.inl rfl)); replace d := Z (blk_grown (g := P) (o := .cells #[.int .i64 x, .int .i64 y, u718002, .int .i64 l, .bool false, .bool z] 24 (0, 0)) (vK d.out) hg (Kd.R_ne HO_753002.out d.out (by decide))); replace q := Z (blk_grown (g := B) (o := .cells #[.int .i64 0, .int .i64 0, .slice none 0 0, .int .i64 0, .bool false, .bool false] 24 (0, 0)) (vK q.out) hg (Kd.R_ne HO_753002.out q.out (by decide))); replace F := Z (blk_grown (g := D) (o := .cells #[.int .i64 ae, .int .i64 af, .slice (some ⟨m, 0, none⟩) c.length aa, .int .i64 ag, .bool ah, .bool ai] 24 (0, 0)) (vK F.out) hg (Kd.R_ne HO_753002.out F.out (by decide))); replace HO_753002 := Z (hp_); replace HB := Z ((by rw [hw]; exact below_set (HB.out) aW.out : Below w.heap.size w w64)); clear hg hw hp_))
             go_roundg k1
             case measure => have := bc.out; omega
             case rel => exact ⟨(wrap64 (b + 1)), (s), (O), (u718002), (.slice (some ⟨m, 0, none⟩) c.length aa), (dn_), H', ⟨by have := bc.out; omega⟩, ⟨by (with_reducible repeat (first | apply Kd.Q_alloc | apply Kd.Q_drewN | apply Kd.Q_drew)); exact HO_6.out⟩, ⟨by (with_reducible repeat (first | apply Kd.Q_alloc | apply Kd.Q_drewN | apply Kd.Q_drew)); exact HO_45.out⟩, ⟨by (with_reducible repeat apply pV); exact Kd.V_mono HO_718002.out (fun _ hk => ⟨hk.1.1, ⟨hk.1.2.1, ⟨hk.1.2.2.1, ⟨hk.2, ⟨hk.1.2.2.2.1, ⟨hk.1.2.2.2.2.1, hk.1.2.2.2.2.2⟩⟩⟩⟩⟩⟩)⟩, ⟨by (with_reducible repeat apply pR); exact HO_753002.out⟩, ⟨vK d.out⟩, ⟨vK q.out⟩, ⟨vK F.out⟩, ⟨bl_⟩⟩
           ·rw [if_neg ca] at H
            exact absurd H (by simp)
          ·rw [if_neg b9] at H
           exact absurd H (by simp)
         ·rw [if_neg b8] at H
          exact absurd H (by simp)
        ·rw [if_neg b7] at H
         exact absurd H (by simp)
       ·rw [if_neg bd] at H
        have eH : decide (b < (a.length : Int)) = false := decide_eq_false bd
        clear bd
        simp only [Option.some.injEq, Prod.mk.injEq] at H
        (first | obtain ⟨rfl, rfl, rfl, rfl, rfl, rfl, _, rfl⟩ := H | obtain ⟨rfl, rfl, rfl, rfl, rfl, rfl, rfl⟩ := H)
        have hx := au.out
        have hM := an.out
        have hy := av.out
        have hN := ap.out
        obtain ⟨fx, fy, fz, fA, fB, fC, gu, gv, gw, gx, gy, gz⟩ := cells6 F.out
        have hz := ao.out
        have hO := am.out
        obtain ⟨fD, fE, fF, fG, fH, fI, gA, gB, gC, gD, gE, gF⟩ := cells6 q.out
        obtain ⟨dL, dW, e2⟩ := Kd.R_slice HO_753002.out
        subst e2
        go_wp2
        refine bodyPost_ret (results_ct rfl _ _ B 24 #[.int .i64 ae, .int .i64 af, .slice dL c.length dW, .int .i64 ag, .bool ah, .bool ai] (0, 0) _ rfl (put6 q.out) Tryd.underlying24 rfl (by kernel_rfl)) rfl ?_
        exact ⟨_, _, er_, by (with_reducible repeat apply pR); exact Kd.R_mono (f6R B (Kd.R_types HO_753002.out q.out (by decide)) (fun _ hk => hk.2)) (fun _ hk => hk.1), Kd.R_V (Kd.R_nil _ _ _ 0 _), bl_⟩
    ·replace bD := Bool.eq_false_iff.mpr bD
     subst bD
     have H1 : ((edit_Deny.f x y u l false z (some (Er.num 8)) ([] : List (S164))).bind fun A => (some (A.1, A.2.1, A.2.2.1, A.2.2.2.1, A.2.2.2.2.1, A.2.2.2.2.2.1, A.2.2.2.2.2.2.1, A.2.2.2.2.2.2.2))) = some (r1, r2, r3, r4, r5, r6, (none : Option Er), r8) := by rw [if_neg (show ¬ (false = true) by decide)] at H; exact H
     clear H
     have H := H1
     clear H1
     replace H := Option.bind_eq_some_iff.mp H
     obtain ⟨⟨a4, a5, a6, a7, a8, a9, ey, ez⟩, dJ, H⟩ := H
     replace H : (some (a4, a5, a6, a7, a8, a9, ey, ez)) = some (r1, r2, r3, r4, r5, r6, (none : Option Er), r8) := H
     have g0 := Z dJ
     clear dJ
     rcases ey with _ | h9
     ·try simp only [errW_none, errW_some]
      simp only [Option.some.injEq, Prod.mk.injEq] at H
      (first | obtain ⟨rfl, rfl, rfl, rfl, rfl, rfl, _, rfl⟩ := H | obtain ⟨rfl, rfl, rfl, rfl, rfl, rfl, rfl⟩ := H)
      go_enter Tryd.func19, Tryd.ntmps19
      go_wp2_with (first | ((with_reducible refine gate_dst (N := 2) rfl ?_); (try (refine gate_guard (by rfl) ?_; dsimp only)); refine bx_ 2 24 #[.int .i64 x, .int .i64 y, .slice ac u.length ad, .int .i64 l, .bool false, .bool z] ?_; intro P hg ii hbox hb; replace r := Z (ve r.out hg hb); have d := Z (hbox); have b3 := Z (ln_ hg : w.heap.size ≤ P); have bo := Z (ln_ hg : w.heap.size ≤ P); replace HB := Z (below_step bl_ hb); clear hb hbox hg) | ((with_reducible refine gate_dst (N := 4) rfl ?_); (try (refine gate_guard (by rfl) ?_; dsimp only)); refine bx_ 4 24 #[.int .i64 0, .int .i64 0, .slice none 0 0, .int .i64 0, .bool false, .bool false] ?_; intro B hg bb hbox hb; replace r := Z (ve r.out hg hb); have q := Z (hbox); have b4 := Z (ln_ hg : w.heap.size ≤ B); have bp := Z (ln_ hg : w.heap.size ≤ B); replace HB := Z (below_step bl_ hb); have am := Z (nl d.out hg); have ao := Z (ng d.out hg); replace d := Z (kb d.out hb); clear hb hbox hg) | ((with_reducible refine gate_callee (f := 29) rfl ?_); refine goesL_ (some 12) rfl rfl Tryd.func29 (by kernel_rfl) rfl #[.int .i64 a1] rfl ag_ ?_; (with_reducible refine (wipe_Wipes.calls a1 true _ A3.out).mono ?_); rintro e w' ⟨rfl, ⟨nd, rfl⟩⟩; refine ⟨_, rfl, ?_⟩; (try (rw [drewN_self bb]; generalize hq_ : World.drewN bb _ = bb; replace r := Z (qV hq_ r.out); replace d := Z (qM hq_ d.out); replace q := Z (qM hq_ q.out); replace HB := Z (qB hq_ HB.out); clear hq_)); have hA := am.out; have hP := ao.out; obtain ⟨fJ, fK, fL, fM, fN, fO, gG, gH, gI, gJ, gK, gL⟩ := cells6 d.out) | ((with_reducible refine gate_callee (f := 44) rfl ?_); refine goesL_ (some 30) rfl rfl Tryd.func44 (by kernel_rfl) rfl #[.agg #[.int .i64 x, .int .i64 y, .slice ac u.length ad, .int .i64 l, .bool false, .bool z], .int .i64 l] rfl ag_ ?_; (with_reducible refine (field_Open.calls x y _ _ u l false z l false _ ?side1 ?side2 eN.out).mono ?_); (case side1 => repeat (first | exact (Kd.V_reads' r.out).2.2 | (with_reducible apply pC))); (case side2 => exact (Kd.V_reads' r.out).2.1); rintro e ij ⟨rfl, hb⟩; refine ⟨_, rfl, ?_⟩; replace r := Z (vb r.out hb); replace d := Z (kb d.out hb); replace q := Z (kb q.out hb); replace HB := Z (below_step bl_ hb); (try clear hb); (try clear bE); (try clear hk); (try clear hi); obtain ⟨fP, fQ, fR, fS, fT, fU, gM, gN, gO, gP, gQ, gR⟩ := cells6 d.out) | ((with_reducible refine gate_callee (f := 34) rfl ?_); refine goesL_ (some 34) rfl rfl Tryd.func34 (by kernel_rfl) rfl #[.agg #[.int .i64 x, .int .i64 y, .slice ac u.length ad, .int .i64 l, .bool false, .bool z], errW (.slice none 0 0) (some (Er.num 8))] rfl ag_ ?_; (refine (edit_Deny.calls x y _ _ u l false z (some (Er.num 8)) _ _ ([] : List (S164)) a4 a5 a6 a7 a8 a9 none ez _ ?side1 ?side2 ?side3 ?side4 g0.out).mono ?_); (case side1 => repeat (first | exact (Kd.V_reads' r.out).2.2 | (with_reducible apply pC))); (case side2 => exact (Kd.V_reads' r.out).2.1); (case side3 => exact Kd.C_nil _ _); (case side4 => exact Nat.le_refl _); rintro e ik ⟨fe, h1, rfl, ay, eS, hb⟩; refine ⟨_, rfl, ?_⟩; replace r := Z (Kd.V_elder' (vV r.out) (Kd.R_base ay) hb); have b6 := Z (Kd.R_lower (Kd.R_newM (M := fun k_ => (w.heap.size ≤ k_)) (Kd.R_mono (ok' := fun k_ => True) ay (fun _ hk_ => trivial)) (below_size bl_) (fun k_ h_ => h_)) (below_size bl_)); have eE := Z (Kd.V_lower (Kd.V_mono (ok' := fun k_ => (aq k_ ∨ w.heap.size ≤ k_) ∧ some k_ ≠ (fe : Value).ownBlock ∧ k_ ≠ P ∧ k_ ≠ B) eS (fun k_ hk_ => ⟨(.inr (Nat.le_trans (below_size bl_) hk_.1)), hk_.2, (Kd.freshB (g := P) (o := .cells #[.int .i64 x, .int .i64 y, .slice ac u.length ad, .int .i64 l, .bool false, .bool z] 24 (0, 0)) (vK d.out) k_ hk_.1), (Kd.freshB (g := B) (o := .cells #[.int .i64 0, .int .i64 0, .slice none 0 0, .int .i64 0, .bool false, .bool false] 24 (0, 0)) (vK q.out) k_ hk_.1)⟩)) (below_size bl_)); replace d := Z (kb d.out hb); replace q := Z (kb q.out hb); replace HB := Z (below_step bl_ hb); (try clear hb); (try clear bE); (try clear hk); (try clear hi); (try clear ay); (try clear eS); (try simp only [errW_none, errW_some]); obtain ⟨fV, fW, fX, fY, fZ, ga, gS, gT, gU, gV, gW, gX⟩ := cells6 q.out; obtain ⟨bS, bX, e3⟩ := Kd.R_slice b6.out; subst e3))
      refine bodyPost_ret (results_ct rfl _ _ B 24 #[.int .i64 a4, .int .i64 a5, .slice bS a6.length bX, .int .i64 a7, .bool a8, .bool a9] (0, 0) _ rfl (put6 q.out) Tryd.underlying24 rfl (by kernel_rfl)) rfl ?_
      exact ⟨_, _, er_, by (with_reducible repeat apply pR); exact Kd.R_mono (f6R B (Kd.R_types b6.out q.out (by decide)) (fun _ hk => hk.2)) (fun _ hk => hk.1.1), by (with_reducible repeat apply pV); exact Kd.V_mono (f6V B (Kd.V_mono eE.out (fun k_ hk => (⟨hk, hk.2.2.2⟩ : _ ∧ k_ ≠ B))) (fun _ hk => hk.2)) (fun _ hk => ⟨hk.1.1, hk.1.2.1⟩), bl_⟩
     ·exact absurd H (by simp)
 ·replace c4 := Bool.eq_false_iff.mpr c4
  subst c4
  have H1 : (some (x, y, u, l, W, z, some (Er.num 1), ([] : List (S164)))) = some (r1, r2, r3, r4, r5, r6, (none : Option Er), r8) := by rw [if_neg (show ¬ (false = true) by decide)] at H; exact H
  clear H
  have H := H1
  clear H1
  exact absurd H (by simp)

end Go.Proofs.YtggecanpjkpkiaaDoor.P
