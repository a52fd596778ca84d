/- pp.py and press2.py (wip/tools) wrote this text. -/
import Derived.Test.YtgboplhcjhlabaaDoorPx0
import Derived.Test.YtgboplhcjhlabaaDoorPxS
import Derived.Test.YtgboplhcjhlabaaDoorPx9
import Derived.Test.YtgboplhcjhlabaaDoorPx17
namespace Go.Proofs.YtgboplhcjhlabaaDoor.P
open Go.RowKit Go.Proofs.YtgboplhcjhlabaaDoorW.PrintWords Go.Proofs.YtgboplhcjhlabaaDoorW.PrintLast Go.Proofs.YtgboplhcjhlabaaDoorW.PrintMore
attribute [local go_sem] max2_int min2_int max_two min_two max_three min_three max_four min_four
attribute [local go_sem] Instr.field asAgg
set_option linter.unusedVariables false
set_option linter.unusedSimpArgs false

/-! ### wipe_Do: function 35 -/
def wipe_Do.l0 : Nat → Int → List Int → List Int → Int → Int → Int → Int → List (S44) → Int → Bool → Bool → Int → Int → List (S44) → Int → Bool → Bool → Option (Int × Int × (List (S44)) × Int × Bool × Bool × Option Er × (List (S184)))
 | 0, _, _, _, _, _, _, _, _, _, _, _, _, _, _, _, _, _ => none
 | k + 1, s, q, c, r, a, l, m, d, n, o, p, f, g, b, h, i, j => if a < r then (if 0 ≤ a then (if a < (c.length : Int) then (if 0 ≤ (rd c a) then (if (rd c a) < (b.length : Int) then ((some (b.set ((rd c a) : Int).toNat (⟨(rd_T44 b (rd c a)).f0, (⟨(rd_T44 b (rd c a)).f1.f0, (rd_T44 b (rd c a)).f1.f1, (rd_T44 b (rd c a)).f1.f2, (rd_T44 b (rd c a)).f1.f3⟩ : S28), 0⟩ : S44) : List (S44))).bind fun e => (if s = 12 then (if (wrap64 (a + 1)) < (q.length : Int) then (if 0 ≤ (wrap64 (a + 1)) then (if 0 ≤ (rd q (wrap64 (a + 1))) then (if (rd q (wrap64 (a + 1))) < (d.length : Int) then (wipe_Do.l0 k s q c r (wrap64 (a + 1)) l m d n o p f g (e.set ((rd c a) : Int).toNat (⟨(rd_T44 e (rd c a)).f0, (⟨(rd_T44 e (rd c a)).f1.f0, (rd_T44 e (rd c a)).f1.f1, (rd_T44 e (rd c a)).f1.f2, (rd_T44 e (rd c a)).f1.f3⟩ : S28), (rd_T44 d (rd q (wrap64 (a + 1)))).f2⟩ : S44)) h i j) else (none)) else (none)) else (none)) else (wipe_Do.l0 k s q c r (wrap64 (a + 1)) l m d n o p f g e h i j)) else (wipe_Do.l0 k s q c r (wrap64 (a + 1)) l m d n o p f g e h i j))) else (none)) else (none)) else (none)) else (none)) else (some (f, g, b, h, i, j, none, ([] : List (S184))))
def wipe_Do.f (k : Nat) (d : Int) (e : Int) (h : List (S44)) (a : Int) (c : Bool) (g : Bool) (a1 : Int) : Option (Int × Int × (List (S44)) × Int × Bool × Bool × Option Er × (List (S184))) := (wipe_Wipes.f a1).bind fun m => (if m = true then (if c = true then (some (d, e, h, a, c, g, some (Er.num 7), ([] : List (S184)))) else (if a1 = 14 then ((wipe_all.f k d e h a c g).bind fun i => (some (i.1, i.2.1, i.2.2.1, i.2.2.2.1, i.2.2.2.2.1, i.2.2.2.2.2, none, ([] : List (S184))))) else ((field_Open.f d e h a c g a).bind fun n => (if n = true then ((edit_Line.f k d e h a c g a).bind fun l => ((edit_Modify.f d e h a c g a).bind fun j => (wipe_Do.l0 k a1 l l (l.length : Int) 0 d e h a c g j.1 j.2.1 j.2.2.1 j.2.2.2.1 j.2.2.2.2.1 j.2.2.2.2.2))) else ((edit_Deny.f d e h a c g (some (Er.num 8)) ([] : List (S184))).bind fun b => (some (b.1, b.2.1, b.2.2.1, b.2.2.2.1, b.2.2.2.2.1, b.2.2.2.2.2.1, b.2.2.2.2.2.2.1, b.2.2.2.2.2.2.2))))))) else (some (d, e, h, a, c, g, some (Er.num 1), ([] : List (S184)))))
theorem wipe_Do.mono_l : ∀ k, (∀ j l m n o p q s t u a b c d e f g, LeO (wipe_Do.l0 k j l m n o p q s t u a b c d e f g) (wipe_Do.l0 (k + 1) j l m n o p q s t u a b c d e f g))
 | 0 => fun _ _ _ _ _ _ _ _ _ _ _ _ _ _ _ _ _ r h => by simp [wipe_Do.l0] at h
 | k + 1 => by
  have i := wipe_Do.mono_l k
  ·intro j l m n o p q s t u a b c d e f g
   unfold wipe_Do.l0
   repeat' first
   | (with_reducible exact i _ _ _ _ _ _ _ _ _ _ _ _ _ _ _ _ _)
   | (with_reducible exact edit_Line.mono _ _ _ _ _ _ _ _)
   | (with_reducible exact wipe_all.mono _ _ _ _ _ _ _)
   | (with_reducible exact LeO.refl _)
   | (with_reducible exact LeO.none _)
   | (with_reducible refine LeO.ite ?_ ?_)
   | (with_reducible refine LeO.bind ?_ (fun _ => ?_))
   | exact i _ _ _ _ _ _ _ _ _ _ _ _ _ _ _ _ _
   | exact edit_Line.mono _ _ _ _ _ _ _ _
   | exact wipe_all.mono _ _ _ _ _ _ _
   | exact LeO.none _
   | refine LeO.ite ?_ ?_
   | refine LeO.bind ?_ (fun _ => ?_)
theorem wipe_Do.mono : ∀ a0 a1 b c a4 d e k, LeO (wipe_Do.f k a0 a1 b c a4 d e) (wipe_Do.f (k + 1) a0 a1 b c a4 d e) := by
 intro a0 a1 b c a4 d e k
 have a := wipe_Do.mono_l k
 unfold wipe_Do.f
 repeat' first
   | (with_reducible exact a _ _ _ _ _ _ _ _ _ _ _ _ _ _ _ _ _)
   | (with_reducible exact edit_Line.mono _ _ _ _ _ _ _ _)
   | (with_reducible exact wipe_all.mono _ _ _ _ _ _ _)
   | (with_reducible exact LeO.refl _)
   | (with_reducible exact LeO.none _)
   | (with_reducible refine LeO.ite ?_ ?_)
   | (with_reducible refine LeO.bind ?_ (fun _ => ?_))
   | exact a _ _ _ _ _ _ _ _ _ _ _ _ _ _ _ _ _
   | exact edit_Line.mono _ _ _ _ _ _ _ _
   | exact wipe_all.mono _ _ _ _ _ _ _
   | exact LeO.none _
   | refine LeO.ite ?_ ?_
   | refine LeO.bind ?_ (fun _ => ?_)
def wipe_Do.T16 : Bool × List (List Nat × List Nat) := (true, [([], []), ([0], [0]), ([], []), ([], []), ([3], [3]), ([], []), ([], []), ([6], [6]), ([5, 7], [5, 7]), ([8], [8]), ([4, 9], [4, 9]), ([10], [10]), ([11], [11]), ([1, 2, 0, 1, 2, 3, 4, 5, 6, 7, 8, 9, 10, 11, 12], [1, 2]), ([13, 0, 1, 2, 3, 4, 5, 6, 7, 8, 9, 10, 11, 12], [13]), ([14, 12, 0, 1, 2, 3, 4, 5, 6, 7, 8, 9, 10, 11, 12], [12, 14])])
def wipe_Do.B16 : List Nat := [0, 1, 0, 0, 8, 0, 0, 64, 224, 480, 1016, 2040, 4088, 8191, 16383, 32767]
theorem wipe_Do.tab16 : rtab .any (opsOf Tryd.f35 16) = wipe_Do.T16 := by kernel_rfl
theorem wipe_Do.bits16 : waitsOk wipe_Do.T16.2 wipe_Do.B16 = true := by kernel_rfl
set_option maxHeartbeats 8000000 in
set_option maxRecDepth 100000 in
theorem wipe_Do.calls (k : Nat) (x : Int) (y : Int) (an : Nat → Prop) (X : Option Addr) (Y : Nat) (s : List (S44)) (l : Int) (U : Bool) (z : Bool) (a1 : Int) (r1 : Int) (r2 : Int) (r3 : List (S44)) (r4 : Int) (r5 : Bool) (r6 : Bool) (r7 : Option Er) (r8 : List (S184)) (w : World) (fc : Kd.V k44 44 w w.heap.size (fun k_ => an k_) (.slice X s.length Y) s) (h : wipe_Do.f k x y s l U z a1 = some (r1, r2, r3, r4, r5, r6, r7, r8)) :
  Calls Tryd.prog 35 #[.agg #[.int .i64 x, .int .i64 y, .slice X s.length Y, .int .i64 l, .bool U, .bool z], .int .i64 a1] w fun e w' => ∃ fk fl : Value, e = .returned (.tuple #[.agg #[.int .i64 r1, .int .i64 r2, fk, .int .i64 r4, .bool r5, .bool r6], errW fl r7]) ∧ Kd.V k44 44 w' w.heap.size (fun k_ => (an k_ ∨ w.heap.size ≤ k_)) fk r3 ∧ Kd.V k184 184 w' w.heap.size (fun k_ => (an k_ ∨ w.heap.size ≤ k_)) fl r8 ∧ Below w.heap.size w w' := by
 have iT := Tryd.underlying24
 have iU := Tryd.underlying34
 have iV := Tryd.underlying75
 have m := Z (show Kd.V k44 44 w w.heap.size (fun k_ => (an k_ ∨ w.heap.size ≤ k_)) (.slice X s.length Y) s from Kd.V_mono fc (fun k_ hk => .inl hk))
 have HB := Z (Below.refl w.heap.size w)
 have H : ((wipe_Wipes.f a1).bind fun bC => (if bC = true then (if U = true then (some (x, y, s, l, U, z, some (Er.num 7), ([] : List (S184)))) else (if a1 = 14 then ((wipe_all.f k x y s l U z).bind fun W => (some (W.1, W.2.1, W.2.2.1, W.2.2.2.1, W.2.2.2.2.1, W.2.2.2.2.2, none, ([] : List (S184))))) else ((field_Open.f x y s l U z l).bind fun aC => (if aC = true then ((edit_Line.f k x y s l U z l).bind fun a => ((edit_Modify.f x y s l U z l).bind fun C => (wipe_Do.l0 k a1 a a (a.length : Int) 0 x y s l U z C.1 C.2.1 C.2.2.1 C.2.2.2.1 C.2.2.2.2.1 C.2.2.2.2.2))) else ((edit_Deny.f x y s l U z (some (Er.num 8)) ([] : List (S184))).bind fun B => (some (B.1, B.2.1, B.2.2.1, B.2.2.2.1, B.2.2.2.2.1, B.2.2.2.2.2.1, B.2.2.2.2.2.2.1, B.2.2.2.2.2.2.2))))))) else (some (x, y, s, l, U, z, some (Er.num 1), ([] : List (S184)))))) = some (r1, r2, r3, r4, r5, r6, r7, r8) := h
 clear h
 replace H := Option.bind_eq_some_iff.mp H
 obtain ⟨bC, fe, H⟩ := H
 replace H : (if bC = true then (if U = true then (some (x, y, s, l, U, z, some (Er.num 7), ([] : List (S184)))) else (if a1 = 14 then ((wipe_all.f k x y s l U z).bind fun W => (some (W.1, W.2.1, W.2.2.1, W.2.2.2.1, W.2.2.2.2.1, W.2.2.2.2.2, none, ([] : List (S184))))) else ((field_Open.f x y s l U z l).bind fun aC => (if aC = true then ((edit_Line.f k x y s l U z l).bind fun a => ((edit_Modify.f x y s l U z l).bind fun C => (wipe_Do.l0 k a1 a a (a.length : Int) 0 x y s l U z C.1 C.2.1 C.2.2.1 C.2.2.2.1 C.2.2.2.2.1 C.2.2.2.2.2))) else ((edit_Deny.f x y s l U z (some (Er.num 8)) ([] : List (S184))).bind fun B => (some (B.1, B.2.1, B.2.2.1, B.2.2.2.1, B.2.2.2.2.1, B.2.2.2.2.2.1, B.2.2.2.2.2.2.1, B.2.2.2.2.2.2.2))))))) else (some (x, y, s, l, U, z, some (Er.num 1), ([] : List (S184))))) = some (r1, r2, r3, r4, r5, r6, r7, r8) := H
 have A3 := Z fe
 clear fe
 by_cases c4 : bC = true
 ·subst c4
  have H1 : (if U = true then (some (x, y, s, l, U, z, some (Er.num 7), ([] : List (S184)))) else (if a1 = 14 then ((wipe_all.f k x y s l U z).bind fun W => (some (W.1, W.2.1, W.2.2.1, W.2.2.2.1, W.2.2.2.2.1, W.2.2.2.2.2, none, ([] : List (S184))))) else ((field_Open.f x y s l U z l).bind fun aC => (if aC = true then ((edit_Line.f k x y s l U z l).bind fun a => ((edit_Modify.f x y s l U z l).bind fun C => (wipe_Do.l0 k a1 a a (a.length : Int) 0 x y s l U z C.1 C.2.1 C.2.2.1 C.2.2.2.1 C.2.2.2.2.1 C.2.2.2.2.2))) else ((edit_Deny.f x y s l U z (some (Er.num 8)) ([] : List (S184))).bind fun B => (some (B.1, B.2.1, B.2.2.1, B.2.2.2.1, B.2.2.2.2.1, B.2.2.2.2.2.1, B.2.2.2.2.2.2.1, B.2.2.2.2.2.2.2))))))) = some (r1, r2, r3, r4, r5, r6, r7, r8) := by rw [if_pos rfl] at H; exact H
  clear H
  have H := H1
  clear H1
  by_cases c5 : U = true
  ·subst c5
   have H1 : (some (x, y, s, l, true, z, some (Er.num 7), ([] : List (S184)))) = some (r1, r2, r3, r4, r5, r6, r7, r8) := by rw [if_pos rfl] at H; exact H
   clear H
   have H := H1
   clear H1
   simp only [Option.some.injEq, Prod.mk.injEq] at H
   obtain ⟨rfl, rfl, rfl, rfl, rfl, rfl, rfl, rfl⟩ := H
   go_enter Tryd.func35, Tryd.ntmps35
   go_wp2_with (first | ((with_reducible refine gate_dst (N := 2) rfl ?_); (try (refine gate_guard (by rfl) ?_; dsimp only)); refine bx_ 2 24 #[.int .i64 x, .int .i64 y, .slice X s.length Y, .int .i64 l, .bool true, .bool z] ?_; intro J hg w6 hbox hb; replace m := Z (ve m.out hg hb); have d := Z (hbox); have a2 := Z (ln_ hg : w.heap.size ≤ J); have aT := Z (ln_ hg : w.heap.size ≤ J); replace HB := Z (below_step bl_ hb); clear hb hbox hg) | ((with_reducible refine gate_dst (N := 4) rfl ?_); (try (refine gate_guard (by rfl) ?_; dsimp only)); refine bx_ 4 24 #[.int .i64 0, .int .i64 0, .slice none 0 0, .int .i64 0, .bool false, .bool false] ?_; intro r hg w7 hbox hb; replace m := Z (ve m.out hg hb); have q := Z (hbox); have a3 := Z (ln_ hg : w.heap.size ≤ r); have aU := Z (ln_ hg : w.heap.size ≤ r); replace HB := Z (below_step bl_ hb); have ae := Z (nl d.out hg); have af := Z (ng d.out hg); replace d := Z (kb d.out hb); clear hb hbox hg) | ((with_reducible refine gate_callee (f := 53) rfl ?_); refine goesL_ (some 12) rfl rfl Tryd.func53 (by kernel_rfl) rfl #[.int .i64 a1] rfl ag_ ?_; (with_reducible refine (wipe_Wipes.calls a1 true _ A3.out).mono ?_); rintro e w' ⟨rfl, ⟨nd, rfl⟩⟩; refine ⟨_, rfl, ?_⟩; (try (rw [drewN_self w7]; generalize hq_ : World.drewN w7 _ = w7; replace m := Z (qV hq_ m.out); replace d := Z (qM hq_ d.out); replace q := Z (qM hq_ q.out); replace HB := Z (qB hq_ HB.out); clear hq_)); have iR := ae.out; have iS := af.out; obtain ⟨ei, ej, ek, el, em, en, ex, ey, ez, eA, eB, eC⟩ := cells6 d.out; obtain ⟨ct, cu, cv, cw, cx, cy, df, dg, dh, di, dj, dk⟩ := cells6 q.out))
   refine bodyPost_ret (results_ct rfl _ _ r 24 #[.int .i64 x, .int .i64 y, .slice X s.length Y, .int .i64 l, .bool true, .bool z] (0, 0) _ rfl (put6 q.out) Tryd.underlying24 rfl (by kernel_rfl)) rfl ?_
   exact ⟨_, _, er_, by (with_reducible repeat apply pV); exact Kd.V_mono (f6V r (Kd.V_mono m.out (fun k_ hk => (⟨hk, hk.2⟩ : _ ∧ k_ ≠ r))) (fun _ hk => hk.2)) (fun _ hk => hk.1.1.1), Kd.R_V (Kd.R_nil _ _ _ 0 _), bl_⟩
  ·replace c5 := Bool.eq_false_iff.mpr c5
   subst c5
   have H1 : (if a1 = 14 then ((wipe_all.f k x y s l false z).bind fun W => (some (W.1, W.2.1, W.2.2.1, W.2.2.2.1, W.2.2.2.2.1, W.2.2.2.2.2, none, ([] : List (S184))))) else ((field_Open.f x y s l false z l).bind fun aC => (if aC = true then ((edit_Line.f k x y s l false z l).bind fun a => ((edit_Modify.f x y s l false z l).bind fun C => (wipe_Do.l0 k a1 a a (a.length : Int) 0 x y s l false z C.1 C.2.1 C.2.2.1 C.2.2.2.1 C.2.2.2.2.1 C.2.2.2.2.2))) else ((edit_Deny.f x y s l false z (some (Er.num 8)) ([] : List (S184))).bind fun B => (some (B.1, B.2.1, B.2.2.1, B.2.2.2.1, B.2.2.2.2.1, B.2.2.2.2.2.1, B.2.2.2.2.2.2.1, B.2.2.2.2.2.2.2)))))) = some (r1, r2, r3, r4, r5, r6, r7, r8) := by rw [if_neg (show ¬ (false = true) by decide)] at H; exact H
   clear H
   have H := H1
   clear H1
   by_cases a0 : a1 = 14
   ·rw [if_pos a0] at H
    have ca : (a1 == 14) = true := beq_iff_eq.mpr a0
    have cb : (a1 != 14) = false := bne_eq_false_iff_eq.mpr a0
    clear a0
    replace H := Option.bind_eq_some_iff.mp H
    obtain ⟨⟨bD, bE, bF, bG, bH, bI⟩, dX, H⟩ := H
    replace H : (some (bD, bE, bF, bG, bH, bI, none, ([] : List (S184)))) = some (r1, r2, r3, r4, r5, r6, r7, r8) := H
    have hX := Z dX
    clear dX
    simp only [Option.some.injEq, Prod.mk.injEq] at H
    obtain ⟨rfl, rfl, rfl, rfl, rfl, rfl, rfl, rfl⟩ := H
    go_enter Tryd.func35, Tryd.ntmps35
    go_wp2_with (first | ((with_reducible refine gate_dst (N := 2) rfl ?_); (try (refine gate_guard (by rfl) ?_; dsimp only)); refine bx_ 2 24 #[.int .i64 x, .int .i64 y, .slice X s.length Y, .int .i64 l, .bool false, .bool z] ?_; intro J hg je hbox hb; replace m := Z (ve m.out hg hb); have d := Z (hbox); have a2 := Z (ln_ hg : w.heap.size ≤ J); have aT := Z (ln_ hg : w.heap.size ≤ J); replace HB := Z (below_step bl_ hb); clear hb hbox hg) | ((with_reducible refine gate_dst (N := 4) rfl ?_); (try (refine gate_guard (by rfl) ?_; dsimp only)); refine bx_ 4 24 #[.int .i64 0, .int .i64 0, .slice none 0 0, .int .i64 0, .bool false, .bool false] ?_; intro r hg bg hbox hb; replace m := Z (ve m.out hg hb); have q := Z (hbox); have a3 := Z (ln_ hg : w.heap.size ≤ r); have aU := Z (ln_ hg : w.heap.size ≤ r); replace HB := Z (below_step bl_ hb); have ae := Z (nl d.out hg); have af := Z (ng d.out hg); replace d := Z (kb d.out hb); clear hb hbox hg) | ((with_reducible refine gate_callee (f := 53) rfl ?_); refine goesL_ (some 12) rfl rfl Tryd.func53 (by kernel_rfl) rfl #[.int .i64 a1] rfl ag_ ?_; (with_reducible refine (wipe_Wipes.calls a1 true _ A3.out).mono ?_); rintro e w' ⟨rfl, ⟨nd, rfl⟩⟩; refine ⟨_, rfl, ?_⟩; (try (rw [drewN_self bg]; generalize hq_ : World.drewN bg _ = bg; replace m := Z (qV hq_ m.out); replace d := Z (qM hq_ d.out); replace q := Z (qM hq_ q.out); replace HB := Z (qB hq_ HB.out); clear hq_)); have ie := ae.out; have iw := af.out; obtain ⟨cz, cA, cB, cC, cD, cE, dl, dm, dn, dp, dq, dr⟩ := cells6 d.out) | ((with_reducible refine gate_callee (f := 54) rfl ?_); refine goesL_ (some 25) rfl rfl Tryd.func54 (by kernel_rfl) rfl #[.agg #[.int .i64 x, .int .i64 y, .slice X s.length Y, .int .i64 l, .bool false, .bool z]] rfl ag_ ?_; (with_reducible refine (wipe_all.calls k x y _ _ s l false z bD bE bF bG bH bI _ ?side1 ?side2 hX.out).mono ?_); (case side1 => repeat (first | exact (Kd.V_reads' m.out).2.2 | (with_reducible apply pC))); (case side2 => exact (Kd.V_reads' m.out).2.1); rintro e jf ⟨iW, rfl, ay, hb⟩; refine ⟨_, rfl, ?_⟩; replace m := Z (Kd.V_elder' (vV m.out) (Kd.R_base ay) hb); have b8 := Z (Kd.R_lower (Kd.R_newM (M := fun k_ => (w.heap.size ≤ k_)) ay (below_size bl_) (fun k_ h_ => h_)) (below_size bl_)); replace d := Z (kb d.out hb); replace q := Z (kb q.out hb); replace HB := Z (below_step bl_ hb); (try clear hb); (try clear bK); (try clear hk); (try clear hi); (try clear ay); obtain ⟨cF, cG, cH, cI, cJ, cK, dt, du, dv, dw, dx, dy⟩ := cells6 q.out; obtain ⟨d3, ea, fq⟩ := Kd.R_slice b8.out; subst fq))
    refine bodyPost_ret (results_ct rfl _ _ r 24 #[.int .i64 bD, .int .i64 bE, .slice d3 bF.length ea, .int .i64 bG, .bool bH, .bool bI] (0, 0) _ rfl (put6 q.out) Tryd.underlying24 rfl (by kernel_rfl)) rfl ?_
    exact ⟨_, _, er_, Kd.V_mono (Kd.R_V (by (with_reducible repeat apply pR); exact Kd.R_mono (f6R r (Kd.R_types b8.out q.out (by decide)) (fun _ hk => hk.2)) (fun _ hk => hk.1.1))) (fun k_ hk => by first | exact ⟨(.inr (hk.1)), hk.2⟩ | exact (.inr (hk))), Kd.R_V (Kd.R_nil _ _ _ 0 _), bl_⟩
   ·rw [if_neg a0] at H
    have ca : (a1 == 14) = false := beq_eq_false_iff_ne.mpr a0
    have cb : (a1 != 14) = true := bne_iff_ne.mpr a0
    replace H := Option.bind_eq_some_iff.mp H
    obtain ⟨aC, dY, H⟩ := H
    replace H : (if aC = true then ((edit_Line.f k x y s l false z l).bind fun a => ((edit_Modify.f x y s l false z l).bind fun C => (wipe_Do.l0 k a1 a a (a.length : Int) 0 x y s l false z C.1 C.2.1 C.2.2.1 C.2.2.2.1 C.2.2.2.2.1 C.2.2.2.2.2))) else ((edit_Deny.f x y s l false z (some (Er.num 8)) ([] : List (S184))).bind fun B => (some (B.1, B.2.1, B.2.2.1, B.2.2.2.1, B.2.2.2.2.1, B.2.2.2.2.2.1, B.2.2.2.2.2.2.1, B.2.2.2.2.2.2.2)))) = some (r1, r2, r3, r4, r5, r6, r7, r8) := H
    have fd := Z dY
    clear dY
    by_cases bJ : aC = true
    ·subst bJ
     have H1 : ((edit_Line.f k x y s l false z l).bind fun a => ((edit_Modify.f x y s l false z l).bind fun C => (wipe_Do.l0 k a1 a a (a.length : Int) 0 x y s l false z C.1 C.2.1 C.2.2.1 C.2.2.2.1 C.2.2.2.2.1 C.2.2.2.2.2))) = some (r1, r2, r3, r4, r5, r6, r7, r8) := by rw [if_pos rfl] at H; exact H
     clear H
     have H := H1
     clear H1
     replace H := Option.bind_eq_some_iff.mp H
     obtain ⟨a, dZ, H⟩ := H
     replace H : ((edit_Modify.f x y s l false z l).bind fun C => (wipe_Do.l0 k a1 a a (a.length : Int) 0 x y s l false z C.1 C.2.1 C.2.2.1 C.2.2.2.1 C.2.2.2.2.1 C.2.2.2.2.2)) = some (r1, r2, r3, r4, r5, r6, r7, r8) := H
     have hY := Z dZ
     clear dZ
     replace H := Option.bind_eq_some_iff.mp H
     obtain ⟨⟨ai, aj, aR, ak, al, am⟩, d0, H⟩ := H
     replace H : (wipe_Do.l0 k a1 a a (a.length : Int) 0 x y s l false z ai aj aR ak al am) = some (r1, r2, r3, r4, r5, r6, r7, r8) := H
     have hZ := Z d0
     clear d0
     have H' := Z H
     clear H
     go_enter Tryd.func35, Tryd.ntmps35
     go_wp2_with (first | ((with_reducible refine gate_dst (N := 2) rfl ?_); (try (refine gate_guard (by rfl) ?_; dsimp only)); refine bx_ 2 24 #[.int .i64 x, .int .i64 y, .slice X s.length Y, .int .i64 l, .bool false, .bool z] ?_; intro J hg jg hbox hb; replace m := Z (ve m.out hg hb); have d := Z (hbox); have a2 := Z (ln_ hg : w.heap.size ≤ J); have aT := Z (ln_ hg : w.heap.size ≤ J); replace HB := Z (below_step bl_ hb); clear hb hbox hg) | ((with_reducible refine gate_dst (N := 4) rfl ?_); (try (refine gate_guard (by rfl) ?_; dsimp only)); refine bx_ 4 24 #[.int .i64 0, .int .i64 0, .slice none 0 0, .int .i64 0, .bool false, .bool false] ?_; intro r hg bh hbox hb; replace m := Z (ve m.out hg hb); have q := Z (hbox); have a3 := Z (ln_ hg : w.heap.size ≤ r); have aU := Z (ln_ hg : w.heap.size ≤ r); replace HB := Z (below_step bl_ hb); have ae := Z (nl d.out hg); have af := Z (ng d.out hg); replace d := Z (kb d.out hb); clear hb hbox hg) | ((with_reducible refine gate_callee (f := 53) rfl ?_); refine goesL_ (some 12) rfl rfl Tryd.func53 (by kernel_rfl) rfl #[.int .i64 a1] rfl ag_ ?_; (with_reducible refine (wipe_Wipes.calls a1 true _ A3.out).mono ?_); rintro e w' ⟨rfl, ⟨nd, rfl⟩⟩; refine ⟨_, rfl, ?_⟩; (try (rw [drewN_self bh]; generalize hq_ : World.drewN bh _ = bh; replace m := Z (qV hq_ m.out); replace d := Z (qM hq_ d.out); replace q := Z (qM hq_ q.out); replace HB := Z (qB hq_ HB.out); clear hq_)); have ig := ae.out; have ix := af.out; obtain ⟨cL, cM, cN, cO, cP, cQ, dz, dA, dB, dC, dD, dE⟩ := cells6 d.out) | ((with_reducible refine gate_callee (f := 55) rfl ?_); refine goesL_ (some 30) rfl rfl Tryd.func55 (by kernel_rfl) rfl #[.agg #[.int .i64 x, .int .i64 y, .slice X s.length Y, .int .i64 l, .bool false, .bool z], .int .i64 l] rfl ag_ ?_; (with_reducible refine (field_Open.calls x y _ _ s l false z l true _ ?side1 ?side2 fd.out).mono ?_); (case side1 => repeat (first | exact (Kd.V_reads' m.out).2.2 | (with_reducible apply pC))); (case side2 => exact (Kd.V_reads' m.out).2.1); rintro e jh ⟨rfl, hb⟩; refine ⟨_, rfl, ?_⟩; replace m := Z (vb m.out hb); replace d := Z (kb d.out hb); replace q := Z (kb q.out hb); replace HB := Z (below_step bl_ hb); (try clear hb); (try clear bK); (try clear hk); (try clear hi); obtain ⟨cR, cS, cT, cU, cV, cW, dF, dG, dH, dI, dJ, dK⟩ := cells6 d.out) | ((with_reducible refine gate_callee (f := 57) rfl ?_); refine goesL_ (some 40) rfl rfl Tryd.func57 (by kernel_rfl) rfl #[.agg #[.int .i64 x, .int .i64 y, .slice X s.length Y, .int .i64 l, .bool false, .bool z], .int .i64 l] rfl ag_ ?_; (with_reducible refine (edit_Line.calls k x y _ _ s l false z l a _ ?side1 ?side2 hY.out).mono ?_); (case side1 => repeat (first | exact (Kd.V_reads' m.out).2.2 | (with_reducible apply pC))); (case side2 => exact (Kd.V_reads' m.out).2.1); rintro e ji ⟨iY, rfl, ay, hb⟩; refine ⟨_, rfl, ?_⟩; replace m := Z (Kd.V_elder' (vV m.out) (Kd.Q_base ay) hb); have aw := Z (Kd.Q_lower (Kd.Q_newM (M := fun k_ => (w.heap.size ≤ k_)) ay (below_size bl_) (fun k_ h_ => h_)) (below_size bl_)); replace d := Z (kb d.out hb); replace q := Z (kb q.out hb); replace HB := Z (below_step bl_ hb); (try clear hb); (try clear bK); (try clear hk); (try clear hi); (try clear ay); obtain ⟨cX, cY, cZ, c0, c6, c7, dL, dM, dN, dO, dP, dQ⟩ := cells6 d.out) | ((with_reducible refine gate_callee (f := 58) rfl ?_); refine goesL_ (some 44) rfl rfl Tryd.func58 (by kernel_rfl) rfl #[.agg #[.int .i64 x, .int .i64 y, .slice X s.length Y, .int .i64 l, .bool false, .bool z], .int .i64 l] rfl ag_ ?_; (with_reducible refine (edit_Modify.calls x y _ _ s l false z l ai aj aR ak al am _ ?side1 ?side2 hZ.out).mono ?_); (case side1 => repeat (first | exact (Kd.V_reads' m.out).2.2 | (with_reducible apply pC))); (case side2 => exact (Kd.V_reads' m.out).2.1); rintro e jj ⟨iZ, rfl, ay, hb⟩; refine ⟨_, rfl, ?_⟩; replace m := Z (Kd.V_elder' (vV m.out) (Kd.R_base ay) hb); replace aw := Z (Kd.Q_below (by (with_reducible repeat (first | apply Kd.Q_alloc | apply Kd.Q_drewN | apply Kd.Q_drew)); exact aw.out) hb); have aV := Z (Kd.R_lower (Kd.R_newM (M := fun k_ => (w.heap.size ≤ k_)) ay (below_size bl_) (fun k_ h_ => h_)) (below_size bl_)); replace d := Z (kb d.out hb); replace q := Z (kb q.out hb); replace HB := Z (below_step bl_ hb); (try clear hb); (try clear bK); (try clear hk); (try clear hi); (try clear ay)) | ((with_reducible refine gate_dst (N := 7) rfl ?_); (try (refine gate_guard (by rfl) ?_; dsimp only)); refine bx_ 7 24 #[.int .i64 0, .int .i64 0, .slice none 0 0, .int .i64 0, .bool false, .bool false] ?_; intro I hg jk hbox hb; replace m := Z (ve m.out hg hb); replace aw := Z (Kd.Q_below (by (with_reducible repeat (first | apply Kd.Q_alloc | apply Kd.Q_drewN | apply Kd.Q_drew)); exact aw.out) hb); replace aV := Z (rb aV.out hb); have O := Z (hbox); have h6 := Z (ln_ hg : w.heap.size ≤ I); have e3 := Z (ln_ hg : w.heap.size ≤ I); replace HB := Z (below_step bl_ hb); have ap := Z (nl d.out hg); have au := Z (ng d.out hg); replace d := Z (kb d.out hb); have aq := Z (nl q.out hg); have av := Z (ng q.out hg); replace q := Z (kb q.out hb); clear hb hbox hg; have ih := au.out; have iy := ap.out; have ii := av.out; have iz := aq.out; obtain ⟨c9, da, db, dc, dd, de, dR, dS, dT, dU, dV, dW⟩ := cells6 O.out; obtain ⟨a4, a7, fr⟩ := Kd.R_slice aV.out; subst fr; obtain ⟨bw, aB, fs, _⟩ := Kd.Q_slice aw.out; subst fs))
     go_loopg [47] k (fun kq h5 w' => ∃ (b : Int) (A : List (S44)) (c : List (S44)) (u542002 : Value) (u577002 : Value), h5 = .int .i64 b ∧ Aside0 (wipe_Do.l0 kq a1 a a (a.length : Int) b x y A l false z ai aj c ak al am = some (r1, r2, r3, r4, r5, r6, r7, r8)) ∧ Aside0 (kq ≤ k) ∧ Aside0 (Kd.Q (Kd.int .i64) 3 w' w.heap.size (fun k_ => (w.heap.size ≤ k_)) (.slice bw a.length aB) a) ∧ Aside0 (Kd.Q (Kd.int .i64) 3 w' w.heap.size (fun k_ => (w.heap.size ≤ k_)) (.slice bw a.length aB) a) ∧ Aside0 (Kd.V k44 44 w' w.heap.size (fun k_ => (an k_ ∨ w.heap.size ≤ k_) ∧ some k_ ≠ ((.slice bw a.length aB) : Value).ownBlock ∧ some k_ ≠ ((.slice bw a.length aB) : Value).ownBlock ∧ some k_ ≠ (u577002 : Value).ownBlock ∧ k_ ≠ J ∧ k_ ≠ r ∧ k_ ≠ I) u542002 A) ∧ Aside0 (Kd.R k44 44 w' w.heap.size (fun k_ => (w.heap.size ≤ k_)) u577002 c) ∧ Aside0 (w'.heap[J]? = some (.cells #[.int .i64 x, .int .i64 y, u542002, .int .i64 l, .bool false, .bool z] 24 (0, 0))) ∧ Aside0 (w'.heap[r]? = some (.cells #[.int .i64 0, .int .i64 0, (.slice none 0 0), .int .i64 0, .bool false, .bool false] 24 (0, 0))) ∧ Aside0 (w'.heap[I]? = some (.cells #[.int .i64 ai, .int .i64 aj, u577002, .int .i64 ak, .bool al, .bool am] 24 (0, 0))) ∧ Aside0 (Below w.heap.size w w'))
     case atStart => exact ⟨(0), (s), (aR), (.slice X s.length Y), (.slice a4 aR.length a7), (dn_), H', ⟨Nat.le_refl _⟩, ⟨by (with_reducible repeat (first | apply Kd.Q_alloc | apply Kd.Q_drewN | apply Kd.Q_drew)); exact Kd.Q_mono (Kd.Q_far (p := ⟨I, 5, none⟩) (Kd.Q_far (p := ⟨I, 4, none⟩) (Kd.Q_far (p := ⟨I, 3, none⟩) (Kd.Q_far (p := ⟨I, 2, none⟩) (Kd.Q_far (p := ⟨I, 1, none⟩) (Kd.Q_far (p := ⟨I, 0, none⟩) (Kd.Q_types aw.out O.out (by decide)) (fun _ hk => hk.2) (.int .i64 ai)) (fun _ hk => hk.2) (.int .i64 aj)) (fun _ hk => hk.2) (.slice a4 aR.length a7)) (fun _ hk => hk.2) (.int .i64 ak)) (fun _ hk => hk.2) (.bool al)) (fun _ hk => hk.2) (.bool am)) (fun _ hk => hk.1.1)⟩, ⟨by (with_reducible repeat (first | apply Kd.Q_alloc | apply Kd.Q_drewN | apply Kd.Q_drew)); exact Kd.Q_mono (Kd.Q_far (p := ⟨I, 5, none⟩) (Kd.Q_far (p := ⟨I, 4, none⟩) (Kd.Q_far (p := ⟨I, 3, none⟩) (Kd.Q_far (p := ⟨I, 2, none⟩) (Kd.Q_far (p := ⟨I, 1, none⟩) (Kd.Q_far (p := ⟨I, 0, none⟩) (Kd.Q_types aw.out O.out (by decide)) (fun _ hk => hk.2) (.int .i64 ai)) (fun _ hk => hk.2) (.int .i64 aj)) (fun _ hk => hk.2) (.slice a4 aR.length a7)) (fun _ hk => hk.2) (.int .i64 ak)) (fun _ hk => hk.2) (.bool al)) (fun _ hk => hk.2) (.bool am)) (fun _ hk => hk.1.1)⟩, ⟨by (with_reducible repeat apply pV); exact Kd.V_mono (f6V I (Kd.V_mono m.out (fun k_ hk => (⟨hk, hk.2⟩ : _ ∧ k_ ≠ I))) (fun _ hk => hk.2)) (fun _ hk => ⟨hk.1.1.1.1.1.1, ⟨hk.1.1.1.2, ⟨hk.1.1.1.2, ⟨hk.1.1.2, ⟨hk.1.1.1.1.1.2, ⟨hk.1.1.1.1.2, hk.1.2⟩⟩⟩⟩⟩⟩)⟩, ⟨by (with_reducible repeat apply pR); exact Kd.R_mono (f6R I (Kd.R_types aV.out O.out (by decide)) (fun _ hk => hk.2)) (fun _ hk => hk.1.1)⟩, ⟨blk_off d.out ap.out off2_⟩, ⟨blk_off q.out aq.out off2_⟩, ⟨put6 O.out⟩, ⟨bl_⟩⟩
     case round =>
      clear H'
      try clear c1
      try clear c2
      try clear p2
      try clear c3
      try clear c4
      try clear c5
      try clear c8
      try clear a0
      try clear ca
      try clear cb
      try clear ja
      try clear bJ
      try clear jb
      try clear jc
      try clear jd
      try clear ct
      try clear cu
      try clear cv
      try clear cw
      try clear cx
      try clear cy
      try clear cz
      try clear cA
      try clear cB
      try clear cC
      try clear cD
      try clear cE
      try clear cF
      try clear cG
      try clear cH
      try clear cI
      try clear cJ
      try clear cK
      try clear cL
      try clear cM
      try clear cN
      try clear cO
      try clear cP
      try clear cQ
      try clear cR
      try clear cS
      try clear cT
      try clear cU
      try clear cV
      try clear cW
      try clear cX
      try clear cY
      try clear cZ
      try clear c0
      try clear c6
      try clear c7
      try clear c9
      try clear da
      try clear db
      try clear dc
      try clear dd
      try clear de
      try clear ei
      try clear ej
      try clear ek
      try clear el
      try clear em
      try clear en
      try clear df
      try clear dg
      try clear dh
      try clear di
      try clear dj
      try clear dk
      try clear dl
      try clear dm
      try clear dn
      try clear dp
      try clear dq
      try clear dr
      try clear dt
      try clear du
      try clear dv
      try clear dw
      try clear dx
      try clear dy
      try clear dz
      try clear dA
      try clear dB
      try clear dC
      try clear dD
      try clear dE
      try clear dF
      try clear dG
      try clear dH
      try clear dI
      try clear dJ
      try clear dK
      try clear dL
      try clear dM
      try clear dN
      try clear dO
      try clear dP
      try clear dQ
      try clear dR
      try clear dS
      try clear dT
      try clear dU
      try clear dV
      try clear dW
      try clear ex
      try clear ey
      try clear ez
      try clear eA
      try clear eB
      try clear eC
      obtain ⟨b, A, c, u542002, u577002, rfl, HA, bk, HO_6, HO_45, HO_542002, HO_577002, d, q, O, HB⟩ := hrel
      cases gk with
      | zero => exact absurd HA.out (by simp [wipe_Do.l0])
      | succ k1 =>
       have H := HA.out
       clear HA
       simp only [wipe_Do.l0] at H
       by_cases bl : b < (a.length : Int)
       ·rw [if_pos bl] at H
        have e7 : decide (b < (a.length : Int)) = true := decide_eq_true bl
        clear bl
        by_cases cc : 0 ≤ b
        ·rw [if_pos cc] at H
         have h7 : decide (0 ≤ b) = true := decide_eq_true cc
         clear cc
         by_cases cd : b < (a.length : Int)
         ·rw [if_pos cd] at H
          have h8 : decide (b < (a.length : Int)) = true := decide_eq_true cd
          clear cd
          by_cases ce : 0 ≤ (rd a b)
          ·rw [if_pos ce] at H
           have h9 : decide (0 ≤ (rd a b)) = true := decide_eq_true ce
           clear ce
           by_cases cf : (rd a b) < (c.length : Int)
           ·rw [if_pos cf] at H
            have ia : decide ((rd a b) < (c.length : Int)) = true := decide_eq_true cf
            clear cf
            obtain ⟨T, aX⟩ : ∃ y_ : List (S44), y_ = (c.set ((rd a b) : Int).toNat (⟨(rd_T44 c (rd a b)).f0, (⟨(rd_T44 c (rd a b)).f1.f0, (rd_T44 c (rd a b)).f1.f1, (rd_T44 c (rd a b)).f1.f2, (rd_T44 c (rd a b)).f1.f3⟩ : S28), 0⟩ : S44)) := ⟨_, rfl⟩
            replace H : (if a1 = 12 then (if (wrap64 (b + 1)) < (a.length : Int) then (if 0 ≤ (wrap64 (b + 1)) then (if 0 ≤ (rd a (wrap64 (b + 1))) then (if (rd a (wrap64 (b + 1))) < (A.length : Int) then (wipe_Do.l0 k1 a1 a a (a.length : Int) (wrap64 (b + 1)) x y A l false z ai aj (T.set ((rd a b) : Int).toNat (⟨(rd_T44 T (rd a b)).f0, (⟨(rd_T44 T (rd a b)).f1.f0, (rd_T44 T (rd a b)).f1.f1, (rd_T44 T (rd a b)).f1.f2, (rd_T44 T (rd a b)).f1.f3⟩ : S28), (rd_T44 A (rd a (wrap64 (b + 1)))).f2⟩ : S44)) ak al am) else (none)) else (none)) else (none)) else (wipe_Do.l0 k1 a1 a a (a.length : Int) (wrap64 (b + 1)) x y A l false z ai aj T ak al am)) else (wipe_Do.l0 k1 a1 a a (a.length : Int) (wrap64 (b + 1)) x y A l false z ai aj T ak al am)) = some (r1, r2, r3, r4, r5, r6, r7, r8) := by first | (rw [aX]; with_reducible exact H) | (have a5 := (Option.bind_some _ _).symm.trans H; rw [aX]; with_reducible exact a5) | (have a5 := (Option.bind_some _ _).symm.trans H; with_reducible exact a5) | with_reducible exact H | (rw [aX]; exact H) | exact H
            have bx := Z aX
            clear aX
            by_cases a6 : a1 = 12
            ·rw [if_pos a6] at H
             have e8 : (a1 == 12) = true := beq_iff_eq.mpr a6
             have e9 : (a1 != 12) = false := bne_eq_false_iff_eq.mpr a6
             clear a6
             by_cases bm : (wrap64 (b + 1)) < (a.length : Int)
             ·rw [if_pos bm] at H
              have cg : decide ((wrap64 (b + 1)) < (a.length : Int)) = true := decide_eq_true bm
              clear bm
              obtain ⟨L, aS⟩ : ∃ j_ : Int, (wrap64 (b + 1)) = j_ := ⟨_, rfl⟩
              replace H : (if 0 ≤ (L) then (if 0 ≤ (rd a (L)) then (if (rd a (L)) < (A.length : Int) then (wipe_Do.l0 k1 a1 a a (a.length : Int) L x y A l false z ai aj (T.set ((rd a b) : Int).toNat (⟨(rd_T44 T (rd a b)).f0, (⟨(rd_T44 T (rd a b)).f1.f0, (rd_T44 T (rd a b)).f1.f1, (rd_T44 T (rd a b)).f1.f2, (rd_T44 T (rd a b)).f1.f3⟩ : S28), (rd_T44 A (rd a (L))).f2⟩ : S44)) ak al am) else (none)) else (none)) else (none)) = some (r1, r2, r3, r4, r5, r6, r7, r8) := by first | (rw [aS] at H; exact H) | (simp only [aS] at H ⊢; exact H)
              (try rw [aS] at cg)
              have h4 : (IntKind.i64.wrap (b + 1)) = L := (i64_w _).trans aS
              by_cases ch : 0 ≤ (L)
              ·rw [if_pos ch] at H
               have ib : decide (0 ≤ (L)) = true := decide_eq_true ch
               clear ch
               by_cases ci : 0 ≤ (rd a (L))
               ·rw [if_pos ci] at H
                have ic : decide (0 ≤ (rd a (L))) = true := decide_eq_true ci
                clear ci
                by_cases cj : (rd a (L)) < (A.length : Int)
                ·rw [if_pos cj] at H
                 have id : decide ((rd a (L)) < (A.length : Int)) = true := decide_eq_true cj
                 clear cj
                 obtain ⟨e2, aY⟩ : ∃ y_ : List (S44), y_ = (T.set ((rd a b) : Int).toNat (⟨(rd_T44 T (rd a b)).f0, (⟨(rd_T44 T (rd a b)).f1.f0, (rd_T44 T (rd a b)).f1.f1, (rd_T44 T (rd a b)).f1.f2, (rd_T44 T (rd a b)).f1.f3⟩ : S28), (rd_T44 A (rd a (L))).f2⟩ : S44)) := ⟨_, rfl⟩
                 replace H : (wipe_Do.l0 k1 a1 a a (a.length : Int) L x y A l false z ai aj e2 ak al am) = some (r1, r2, r3, r4, r5, r6, r7, r8) := by first | (rw [aY]; with_reducible exact H) | (have a5 := (Option.bind_some _ _).symm.trans H; rw [aY]; with_reducible exact a5) | (have a5 := (Option.bind_some _ _).symm.trans H; with_reducible exact a5) | with_reducible exact H | (rw [aY]; exact H) | exact H
                 have e5 := Z aY
                 clear aY
                 have H' := Z H
                 clear H
                 have az : 0 ≤ (b : Int) := od_
                 have aA : b < (a.length : Int) := od_
                 obtain ⟨ar, a8, bn⟩ := Kd.at_int (Kd.Q_reads' HO_45.out).2.2 b az aA
                 cases a8
                 replace az := eq_true az
                 replace aA := eq_true aA
                 have ij := au.out
                 have iA := ap.out
                 have ik := av.out
                 have iB := aq.out
                 obtain ⟨fG, fH, fI, fJ, fK, fL, gP, gQ, gR, gS, gT, gU⟩ := cells6 O.out
                 have p44 : 0 ≤ ((rd a b) : Int) := od_
                 have aQ : ((rd a b) : Int) < ((c.length : Int) : Int) := od_
                 obtain ⟨u, ac, aN, aO, a9, d9, aM⟩ := Kd.R_form HO_577002.out (by omega)
                 (first | cases aN | (injection aN with ea_ en_ ec_; (first | subst ea_ | (injection ea_ with ea_; subst ea_)); subst ec_; clear en_))
                 have aZ := Z aO
                 have ax := Z aM
                 clear aO a9 aM
                 obtain ⟨d8, aW, aP, aa, ab⟩ := Kd.R_elem HO_577002.out z44 ((rd a b) : Int) p44 aQ
                 obtain rfl := k44_openM aP
                 have bR : wr.cell? ⟨u, ((rd a b) : Int).toNat * 6, none⟩ = some (.bool ((rd_T44 c (rd a b)).f0)) := aa 0 _ rfl
                 have bS : wr.cell? ⟨u, ((rd a b) : Int).toNat * 6 + 1, none⟩ = some (.bool ((rd_T44 c (rd a b)).f1.f0)) := aa 1 _ rfl
                 have bT : wr.cell? ⟨u, ((rd a b) : Int).toNat * 6 + 2, none⟩ = some (.bool ((rd_T44 c (rd a b)).f1.f1)) := aa 2 _ rfl
                 have bU : wr.cell? ⟨u, ((rd a b) : Int).toNat * 6 + 3, none⟩ = some (.int .i64 ((rd_T44 c (rd a b)).f1.f2)) := aa 3 _ rfl
                 have bV : wr.cell? ⟨u, ((rd a b) : Int).toNat * 6 + 4, none⟩ = some (.bool ((rd_T44 c (rd a b)).f1.f3)) := aa 4 _ rfl
                 have bW : wr.cell? ⟨u, ((rd a b) : Int).toNat * 6 + 5, none⟩ = some (.int .u8 ((rd_T44 c (rd a b)).f2)) := aa 5 _ rfl
                 have bL : wr.frozen? ⟨u, ((rd a b) : Int).toNat * 6, none⟩ = false := ab 0
                 have bM : wr.frozen? ⟨u, ((rd a b) : Int).toNat * 6 + 1, none⟩ = false := ab 1
                 have bN : wr.frozen? ⟨u, ((rd a b) : Int).toNat * 6 + 2, none⟩ = false := ab 2
                 have bO : wr.frozen? ⟨u, ((rd a b) : Int).toNat * 6 + 3, none⟩ = false := ab 3
                 have bP : wr.frozen? ⟨u, ((rd a b) : Int).toNat * 6 + 4, none⟩ = false := ab 4
                 have bQ : wr.frozen? ⟨u, ((rd a b) : Int).toNat * 6 + 5, none⟩ = false := ab 5
                 clear aW aa ab aP
                 replace p44 := eq_true p44
                 replace aQ := eq_true aQ
                 have d5 := Z (show Kd.R k44 44 wr w.heap.size (fun k_ => (w.heap.size ≤ k_)) (.slice (some ⟨u, 0, none⟩) c.length ac) c from (by (with_reducible repeat apply pR); exact HO_577002.out))
                 obtain ⟨iN, cl, ee, bz, cp⟩ := Kd.R_elem d5.out z44 ((rd a b) : Int) (od_) (by have h_ : ((rd a b) : Int) < ((c.length : Int) : Int) := od_; first | exact h_ | (have e_ := (Kd.R_reads' HO_577002.out).1; omega) | simpa using h_)
                 obtain rfl := k44_openM ee
                 have bZ := Kd.R_seg d5.out ((rd a b) : Int) (od_) (by have h_ : ((rd a b) : Int) < ((c.length : Int) : Int) := od_; first | exact h_ | (have e_ := (Kd.R_reads' HO_577002.out).1; omega) | simpa using h_) (seg := [.int .u8 0]) (j := 5) cl bz (show 6 ≤ 6 from by decide) (x' := (⟨(rd_T44 c (rd a b)).f0, (⟨(rd_T44 c (rd a b)).f1.f0, (rd_T44 c (rd a b)).f1.f1, (rd_T44 c (rd a b)).f1.f2, (rd_T44 c (rd a b)).f1.f3⟩ : S28), 0⟩ : S44)) (k44_mkM _ _ _ (⟨(rd_T44 c (rd a b)).f0, (⟨(rd_T44 c (rd a b)).f1.f0, (rd_T44 c (rd a b)).f1.f1, (rd_T44 c (rd a b)).f1.f2, (rd_T44 c (rd a b)).f1.f3⟩ : S28), 0⟩ : S44) ) (fun _ hk => hk)
                 have eJ := bz 5 _ rfl
                 (try simp only [show (k44).sz = 6 from rfl, Nat.mul_one, Nat.add_zero] at eJ)
                 have eu := cp 5
                 (try simp only [show (k44).sz = 6 from rfl, Nat.mul_one, Nat.add_zero] at eu)
                 clear cl bz cp ee
                 try go_wp2_with (first | ((with_reducible refine gate_store (t := 5) (p := 56) rfl ?_); refine sx_ 5 56 (wr.setCell ⟨u, ((rd a b) : Int).toNat * 6 + 5, none⟩ (.int .u8 0)) ?_; intro bX hw; have hg : wr.grownBy bX (some u) := (by rw [hw]; exact bZ.2); have hp_ : Kd.R k44 44 bX w.heap.size (fun k_ => (w.heap.size ≤ k_)) (.slice (some ⟨u, 0, none⟩) c.length ac) T := (by rw [hw, bx.out]; exact bZ.1); clear bZ; replace HO_6 := Z (Kd.Q_over' (v := (.slice (some ⟨u, 0, none⟩) c.length ac)) (by (with_reducible repeat (first | apply Kd.Q_alloc | apply Kd.Q_drewN | apply Kd.Q_drew)); exact HO_6.out) (Kd.R_typed HO_577002.out) (by decide) hg); replace HO_45 := Z (Kd.Q_over' (v := (.slice (some ⟨u, 0, none⟩) c.length ac)) (by (with_reducible repeat (first | apply Kd.Q_alloc | apply Kd.Q_drewN | apply Kd.Q_drew)); exact HO_45.out) (Kd.R_typed HO_577002.out) (by decide) hg); replace HO_542002 := Z (Kd.V_afterv (v := (.slice (some ⟨u, 0, none⟩) c.length ac)) (v1 := (.slice (some ⟨u, 0, none⟩) c.length ac)) (ok := (fun k_ => (an k_ ∨ w.heap.size ≤ k_) ∧ some k_ ≠ (.slice (some ar) a.length aB : Value).ownBlock ∧ some k_ ≠ (.slice (some ar) a.length aB : Value).ownBlock ∧ k_ ≠ J ∧ k_ ≠ r ∧ k_ ≠ I)) (by (with_reducible repeat apply pV); exact Kd.V_mono HO_542002.out (fun _ hk => ⟨⟨hk.1, ⟨hk.2.1, ⟨hk.2.2.1, ⟨hk.2.2.2.2.1, ⟨hk.2.2.2.2.2.1, hk.2.2.2.2.2.2⟩⟩⟩⟩⟩, hk.2.2.2.1⟩)) hg (.inl rfl)); replace d := Z (blk_grown (g := J) (o := .cells #[.int .i64 x, .int .i64 y, u542002, .int .i64 l, .bool false, .bool z] 24 (0, 0)) (vK d.out) hg (Kd.R_ne HO_577002.out d.out (by decide))); replace q := Z (blk_grown (g := r) (o := .cells #[.int .i64 0, .int .i64 0, .slice none 0 0, .int .i64 0, .bool false, .bool false] 24 (0, 0)) (vK q.out) hg (Kd.R_ne HO_577002.out q.out (by decide))); replace O := Z (blk_grown (g := I) (o := .cells #[.int .i64 ai, .int .i64 aj, .slice (some ⟨u, 0, none⟩) c.length ac, .int .i64 ak, .bool al, .bool am] 24 (0, 0)) (vK O.out) hg (Kd.R_ne HO_577002.out O.out (by decide))); replace HO_577002 := Z (hp_); replace HB := Z ((by rw [hw]; exact below_set (HB.out) aZ.out : Below w.heap.size w bX)); (try (replace ax := Z (show bX.heap[u]? = some (.cells _ _ (0, 0)) by rw [hw]; exact blk_set ax.out _ _))); clear hg hw hp_))
                 have D := Z (Kd.Q_drew HO_6.out)
                 have E := Z (Kd.Q_drew HO_45.out)
                 have F := Z (Kd.V_drew HO_542002.out)
                 have G := Z (Kd.R_drew HO_577002.out)
                 have P := Z (blk_drew d.out)
                 have ad := Z (blk_drew q.out)
                 have ag := Z (blk_drew O.out)
                 have ah := Z (below_drew1 HB.out)
                 clear HO_6
                 clear HO_45
                 clear HO_542002
                 clear HO_577002
                 clear d
                 clear q
                 clear O
                 clear HB
                 have HO_6 := D
                 have HO_45 := E
                 have HO_542002 := F
                 have HO_577002 := G
                 have d := P
                 have q := ad
                 have O := ag
                 have HB := ah
                 clear D E F G P ad ag ah
                 have b4 : 0 ≤ ((L) : Int) := od_
                 have b6 : (L) < (a.length : Int) := od_
                 obtain ⟨e6, fo, bo⟩ := Kd.at_int (Kd.Q_reads' HO_6.out).2.2 (L) b4 b6
                 obtain rfl : ar = e6 := (by injection fo)
                 replace b4 := eq_true b4
                 replace b6 := eq_true b6
                 obtain ⟨iL, eb, ec⟩ := Kd.V_slice HO_542002.out
                 (first | subst ec | (injection ec with ff h1 fg; have h2 := ff.symm; have h3 := fg.symm; clear ff h1 fg; subst h2; subst h3))
                 have b5 : 0 ≤ ((rd a (L)) : Int) := od_
                 have b7 : (rd a (L)) < (A.length : Int) := od_
                 obtain ⟨ao, fp, bp, bq, br, bs, bt, bu⟩ := at_T44 (Kd.V_reads' HO_542002.out).2.2 (rd a (L)) b5 b7
                 cases fp
                 replace b5 := eq_true b5
                 replace b7 := eq_true b7
                 have p51 : 0 ≤ ((rd a b) : Int) := od_
                 have eP : ((rd a b) : Int) < ((c.length : Int) : Int) := od_
                 obtain ⟨iM, fa, ed, aD, aE⟩ := Kd.R_elem HO_577002.out z44 ((rd a b) : Int) p51 eP
                 obtain rfl := k44_openM ed
                 have eD : World.cell? _ ⟨u, ((rd a b) : Int).toNat * 6, none⟩ = some (.bool ((rd_T44 T (rd a b)).f0)) := aD 0 _ rfl
                 have eE : World.cell? _ ⟨u, ((rd a b) : Int).toNat * 6 + 1, none⟩ = some (.bool ((rd_T44 T (rd a b)).f1.f0)) := aD 1 _ rfl
                 have eF : World.cell? _ ⟨u, ((rd a b) : Int).toNat * 6 + 2, none⟩ = some (.bool ((rd_T44 T (rd a b)).f1.f1)) := aD 2 _ rfl
                 have eG : World.cell? _ ⟨u, ((rd a b) : Int).toNat * 6 + 3, none⟩ = some (.int .i64 ((rd_T44 T (rd a b)).f1.f2)) := aD 3 _ rfl
                 have eH : World.cell? _ ⟨u, ((rd a b) : Int).toNat * 6 + 4, none⟩ = some (.bool ((rd_T44 T (rd a b)).f1.f3)) := aD 4 _ rfl
                 have eI : World.cell? _ ⟨u, ((rd a b) : Int).toNat * 6 + 5, none⟩ = some (.int .u8 ((rd_T44 T (rd a b)).f2)) := aD 5 _ rfl
                 have eo : World.frozen? _ ⟨u, ((rd a b) : Int).toNat * 6, none⟩ = false := aE 0
                 have ep : World.frozen? _ ⟨u, ((rd a b) : Int).toNat * 6 + 1, none⟩ = false := aE 1
                 have eq : World.frozen? _ ⟨u, ((rd a b) : Int).toNat * 6 + 2, none⟩ = false := aE 2
                 have er : World.frozen? _ ⟨u, ((rd a b) : Int).toNat * 6 + 3, none⟩ = false := aE 3
                 have es : World.frozen? _ ⟨u, ((rd a b) : Int).toNat * 6 + 4, none⟩ = false := aE 4
                 have et : World.frozen? _ ⟨u, ((rd a b) : Int).toNat * 6 + 5, none⟩ = false := aE 5
                 clear fa aD aE ed
                 replace p51 := eq_true p51
                 replace eP := eq_true eP
                 obtain ⟨iO, cm, ef, ck, fb⟩ := Kd.R_elem HO_577002.out z44 ((rd a b) : Int) (od_) (by have h_ : ((rd a b) : Int) < ((c.length : Int) : Int) := od_; first | exact h_ | (have e_ := (Kd.R_reads' HO_577002.out).1; omega) | simpa using h_)
                 obtain rfl := k44_openM ef
                 have b0 := (Kd.R_seg HO_577002.out ((rd a b) : Int) (od_) (by have h_ : ((rd a b) : Int) < ((c.length : Int) : Int) := od_; first | exact h_ | (have e_ := (Kd.R_reads' HO_577002.out).1; omega) | simpa using h_) (seg := [.int .u8 ((rd_T44 A (rd a (L))).f2)]) (j := 5) cm ck (show 6 ≤ 6 from by decide) (x' := (⟨(rd_T44 T (rd a b)).f0, (⟨(rd_T44 T (rd a b)).f1.f0, (rd_T44 T (rd a b)).f1.f1, (rd_T44 T (rd a b)).f1.f2, (rd_T44 T (rd a b)).f1.f3⟩ : S28), (rd_T44 A (rd a (L))).f2⟩ : S44)) (k44_mkM _ _ _ (⟨(rd_T44 T (rd a b)).f0, (⟨(rd_T44 T (rd a b)).f1.f0, (rd_T44 T (rd a b)).f1.f1, (rd_T44 T (rd a b)).f1.f2, (rd_T44 T (rd a b)).f1.f3⟩ : S28), (rd_T44 A (rd a (L))).f2⟩ : S44) ) (fun _ hk => hk)).1
                 rw [← e5.out] at b0
                 have d4 := Z b0
                 clear cm ck fb ef b0
                 refine start_ (n := 16) (S := fun w' => w'.cell? ⟨I, 0, none⟩ = some (.int .i64 ai) ∧ w'.cell? ⟨I, 1, none⟩ = some (.int .i64 aj) ∧ w'.cell? ⟨I, 2, none⟩ = some (.slice (some ⟨u, 0, none⟩) c.length ac) ∧ w'.cell? ⟨I, 3, none⟩ = some (.int .i64 ak) ∧ w'.cell? ⟨I, 4, none⟩ = some (.bool al) ∧ w'.cell? ⟨I, 5, none⟩ = some (.bool am) ∧ w'.cell? ⟨J, 0, none⟩ = some (.int .i64 x) ∧ w'.cell? ⟨J, 1, none⟩ = some (.int .i64 y) ∧ w'.cell? ⟨J, 2, none⟩ = some (.slice (some ao) A.length eb) ∧ w'.cell? ⟨J, 3, none⟩ = some (.int .i64 l) ∧ w'.cell? ⟨J, 4, none⟩ = some (.bool false) ∧ w'.cell? ⟨J, 5, none⟩ = some (.bool z) ∧ w'.cell? (ar.add ((L)).toNat) = some (.int .i64 (rd a (L))) ∧ w'.cell? (ao.add (((rd a (L))).toNat * 6)) = some (.bool ((rd_T44 A (rd a (L))).f0)) ∧ w'.cell? ⟨(ao.add (((rd a (L))).toNat * 6)).block, (ao.add (((rd a (L))).toNat * 6)).off + 1, none⟩ = some (.bool ((rd_T44 A (rd a (L))).f1.f0)) ∧ w'.cell? ⟨(ao.add (((rd a (L))).toNat * 6)).block, (ao.add (((rd a (L))).toNat * 6)).off + 2, none⟩ = some (.bool ((rd_T44 A (rd a (L))).f1.f1)) ∧ w'.cell? ⟨(ao.add (((rd a (L))).toNat * 6)).block, (ao.add (((rd a (L))).toNat * 6)).off + 3, none⟩ = some (.int .i64 ((rd_T44 A (rd a (L))).f1.f2)) ∧ w'.cell? ⟨(ao.add (((rd a (L))).toNat * 6)).block, (ao.add (((rd a (L))).toNat * 6)).off + 4, none⟩ = some (.bool ((rd_T44 A (rd a (L))).f1.f3)) ∧ w'.cell? ⟨(ao.add (((rd a (L))).toNat * 6)).block, (ao.add (((rd a (L))).toNat * 6)).off + 5, none⟩ = some (.int .u8 ((rd_T44 A (rd a (L))).f2))) (ds := [15]) (bv 16 0) (by kernel_rfl) rfl rfl ⟨(blk_cell O.out 0).trans rfl, (blk_cell O.out 1).trans rfl, (blk_cell O.out 2).trans rfl, (blk_cell O.out 3).trans rfl, (blk_cell O.out 4).trans rfl, (blk_cell O.out 5).trans rfl, (blk_cell d.out 0).trans rfl, (blk_cell d.out 1).trans rfl, (blk_cell d.out 2).trans rfl, (blk_cell d.out 3).trans rfl, (blk_cell d.out 4).trans rfl, (blk_cell d.out 5).trans rfl, bo, bp, bq, br, bs, bt, bu⟩ (fun hHeld => ?_); refine with_tabW wipe_Do.tab16 wipe_Do.bits16 (fun HT_ HW_ => ?_)
                 (replace ax := Z (blk_drew ax.out)); generalize bX.drew = jl at ax HO_6 HO_45 HO_542002 HO_577002 d q O HB d4 eo ep eq er es et eD eE eF eG eH eI bo bp bq br bs bt bu hHeld ⊢
                 refine pure_ (i := 0) (N := some 66) (v := ?_) (a' := ?_) (bv 16 1) rfl rfl (any_of HT_.out (by kernel_rfl)) (fun _ _ _ h => h) (Or.inl ⟨by rfl, ?_⟩) ?_ ?_
                 rotate_left
                 ·intro w'
                  go_simp
                  with_reducible rfl
                 rotate_left
                 ·simp only [Act.put, sA, sB, sC, i64_w, i32_w]
                  rfl
                 refine pure_ (i := 2) (N := some 68) (v := ?_) (a' := ?_) (bv 16 5) rfl rfl (any_of HT_.out (by kernel_rfl)) (fun _ _ _ h => h) (Or.inl ⟨by rfl, ?_⟩) ?_ ?_
                 rotate_left
                 ·intro w'
                  go_simp
                  with_reducible rfl
                 rotate_left
                 ·simp only [Act.put, sA, sB, sC, i64_w, i32_w]
                  rfl
                 refine pure_ (i := 3) (N := some 69) (v := ?_) (a' := ?_) (bv 16 13) rfl rfl (any_of HT_.out (by kernel_rfl)) (fun _ _ _ h => h) (Or.inl ⟨by rfl, ?_⟩) ?_ ?_
                 rotate_left
                 ·intro w'
                  go_simp
                  with_reducible rfl
                 rotate_left
                 ·simp only [Act.put, sA, sB, sC, i64_w, i32_w]
                  rfl
                 refine pure_ (i := 5) (N := some 71) (v := ?_) (a' := ?_) (bv 16 45) rfl rfl (any_of HT_.out (by kernel_rfl)) (fun _ _ _ h => h) (Or.inl ⟨by rfl, ?_⟩) ?_ ?_
                 rotate_left
                 ·intro w'
                  go_simp
                  with_reducible rfl
                 rotate_left
                 ·simp only [Act.put, sA, sB, sC, i64_w, i32_w]
                  rfl
                 refine pure_ (i := 6) (N := some 72) (v := ?_) (a' := ?_) (bv 16 109) rfl rfl (any_of HT_.out (by kernel_rfl)) (fun _ _ _ h => h) (Or.inl ⟨by rfl, ?_⟩) ?_ ?_
                 rotate_left
                 ·intro w'
                  go_simp
                  with_reducible rfl
                 rotate_left
                 ·simp only [Act.put, sA, sB, sC, i64_w, i32_w]
                  rfl
                 refine pure_ (i := 7) (N := some 73) (v := ?_) (a' := ?_) (bv 16 237) rfl rfl (any_of HT_.out (by kernel_rfl)) (fun _ _ _ h => h) (Or.inl ⟨by rfl, ?_⟩) ?_ ?_
                 rotate_left
                 ·intro w'
                  go_simp
                  with_reducible rfl
                 rotate_left
                 ·simp only [Act.put, sA, sB, sC, i64_w, i32_w]
                  rfl
                 refine pure_ (i := 8) (N := some 74) (v := ?_) (a' := ?_) (bv 16 493) rfl rfl (any_of HT_.out (by kernel_rfl)) (fun _ _ _ h => h) (Or.inl ⟨by rfl, ?_⟩) ?_ ?_
                 rotate_left
                 ·intro w'
                  go_simp
                  with_reducible rfl
                 rotate_left
                 ·simp only [Act.put, sA, sB, sC, i64_w, i32_w]
                  rfl
                 refine take_ (i := 1) (N := some 67) (v := ?_) (a' := ?_) (bv 16 495) rfl rfl (take_ofW HT_.out HW_.out (by kernel_rfl)) (fun _ _ _ h => h) (Or.inl ⟨by rfl, ?_⟩) hHeld ?_ ?_
                 rotate_left
                 ·rintro w' ⟨s0, s1, s2, s3, s4, s5, s6, s7, s8, s9, eQ, eR, eS, eT, eU, eV, eW, eX, eY⟩
                  go_simp
                  with_reducible rfl
                 rotate_left
                 ·simp only [Act.put, sA, sB, sC, i64_w, i32_w]
                  rfl
                 refine take_ (i := 4) (N := some 70) (v := ?_) (a' := ?_) (bv 16 511) rfl rfl (take_ofW HT_.out HW_.out (by kernel_rfl)) (fun _ _ _ h => h) (Or.inl ⟨by rfl, ?_⟩) hHeld ?_ ?_
                 rotate_left
                 ·rintro w' ⟨s0, s1, s2, s3, s4, s5, s6, s7, s8, s9, eQ, eR, eS, eT, eU, eV, eW, eX, eY⟩
                  go_simp
                  with_reducible rfl
                 rotate_left
                 ·simp only [Act.put, sA, sB, sC, i64_w, i32_w]
                  rfl
                 refine take_ (i := 9) (N := some 75) (v := ?_) (a' := ?_) (bv 16 1023) rfl rfl (take_ofW HT_.out HW_.out (by kernel_rfl)) (fun _ _ _ h => h) (Or.inl ⟨by rfl, ?_⟩) hHeld ?_ ?_
                 rotate_left
                 ·rintro w' ⟨s0, s1, s2, s3, s4, s5, s6, s7, s8, s9, eQ, eR, eS, eT, eU, eV, eW, eX, eY⟩
                  go_simp
                  with_reducible rfl
                 rotate_left
                 ·simp only [Act.put, sA, sB, sC, i64_w, i32_w]
                  rfl
                 refine pure_ (i := 10) (N := some 76) (v := ?_) (a' := ?_) (bv 16 2047) rfl rfl (any_of HT_.out (by kernel_rfl)) (fun _ _ _ h => h) (Or.inl ⟨by rfl, ?_⟩) ?_ ?_
                 rotate_left
                 ·intro w'
                  go_simp
                  with_reducible rfl
                 rotate_left
                 ·simp only [Act.put, sA, sB, sC, i64_w, i32_w]
                  rfl
                 refine pure_ (i := 11) (N := some 77) (v := ?_) (a' := ?_) (bv 16 4095) rfl rfl (any_of HT_.out (by kernel_rfl)) (fun _ _ _ h => h) (Or.inl ⟨by rfl, ?_⟩) ?_ ?_
                 rotate_left
                 ·intro w'
                  go_simp
                  with_reducible rfl
                 rotate_left
                 ·simp only [Act.put, sA, sB, sC, i64_w, i32_w]
                  rfl
                 refine take_ (i := 12) (N := some 78) (v := ?_) (a' := ?_) (bv 16 8191) rfl rfl (take_ofW HT_.out HW_.out (by kernel_rfl)) (fun _ _ _ h => h) (Or.inl ⟨by rfl, ?_⟩) hHeld ?_ ?_
                 rotate_left
                 ·rintro w' ⟨s0, s1, s2, s3, s4, s5, s6, s7, s8, s9, eQ, eR, eS, eT, eU, eV, eW, eX, eY⟩
                  go_simp
                  with_reducible rfl
                 rotate_left
                 ·simp only [Act.put, sA, sB, sC, i64_w, i32_w]
                  rfl
                 refine pure_ (i := 13) (N := some 79) (v := ?_) (a' := ?_) (bv 16 16383) rfl rfl (any_of HT_.out (by kernel_rfl)) (fun _ _ _ h => h) (Or.inl ⟨by rfl, ?_⟩) ?_ ?_
                 rotate_left
                 ·intro w'
                  go_simp
                  with_reducible rfl
                 rotate_left
                 ·simp only [Act.put, sA, sB, sC, i64_w, i32_w]
                  rfl
                 refine pure_ (i := 14) (N := some 80) (v := ?_) (a' := ?_) (bv 16 32767) rfl rfl (any_of HT_.out (by kernel_rfl)) (fun _ _ _ h => h) (Or.inl ⟨by rfl, ?_⟩) ?_ ?_
                 rotate_left
                 ·intro w'
                  go_simp
                  with_reducible rfl
                 rotate_left
                 ·simp only [Act.put, sA, sB, sC, i64_w, i32_w]
                  rfl
                 refine last_ (i := 15) (N := none) (bv 16 65535) rfl rfl (one_of HT_.out (by kernel_rfl)) (by decide) (fun K hK => ?_)
                 refine skip_ (w1 := ?_) (by rfl) rfl ?_ ?_
                 rotate_left
                 ·go_simp
                  rfl
                 refine hK.out _ _ ?_
                 clear hK K
                 refine done_ (done_of HT_.out (by kernel_rfl)) ?_
                 try go_wp2
                 go_roundg k1
                 case measure => have := bk.out; omega
                 case rel => exact ⟨(L), (A), (e2), (.slice (some ao) A.length eb), (.slice (some ⟨u, 0, none⟩) c.length ac), (by first | rfl | (simp; done) | (simp only [← aS, i64_w]; rfl) | (simp only [← aS] <;> (first | rfl | simp)) | (simp [*]; done)), H', ⟨by have := bk.out; omega⟩, ⟨by (with_reducible repeat (first | apply Kd.Q_alloc | apply Kd.Q_drewN | apply Kd.Q_drew)); exact Kd.Q_mono (Kd.Q_far (p := ⟨u, ((rd a b) : Int).toNat * 6 + 5, none⟩) (Kd.Q_types HO_6.out ax.out (by decide)) (fun _ hk => hk.2) (.int .u8 ((rd_T44 A (rd a (L))).f2))) (fun _ hk => hk.1)⟩, ⟨by (with_reducible repeat (first | apply Kd.Q_alloc | apply Kd.Q_drewN | apply Kd.Q_drew)); exact Kd.Q_mono (Kd.Q_far (p := ⟨u, ((rd a b) : Int).toNat * 6 + 5, none⟩) (Kd.Q_types HO_45.out ax.out (by decide)) (fun _ hk => hk.2) (.int .u8 ((rd_T44 A (rd a (L))).f2))) (fun _ hk => hk.1)⟩, ⟨by (with_reducible repeat apply pV); exact Kd.V_mono (Kd.V_far (p := ⟨u, ((rd a b) : Int).toNat * 6 + 5, none⟩) (Kd.V_mono HO_542002.out (fun k_ hk => (⟨hk, fun e_ => hk.2 (by rw [e_]; rfl)⟩ : _ ∧ k_ ≠ u))) (fun _ hk => hk.2) (.int .u8 ((rd_T44 A (rd a (L))).f2))) (fun _ hk => ⟨hk.1.1.1, ⟨hk.1.1.2.1, ⟨hk.1.1.2.2.1, ⟨hk.1.2, ⟨hk.1.1.2.2.2.1, ⟨hk.1.1.2.2.2.2.1, hk.1.1.2.2.2.2.2⟩⟩⟩⟩⟩⟩)⟩, ⟨by (with_reducible repeat apply pR); exact d4.out⟩, ⟨by (with_reducible repeat apply pK); refine blk_far ?_ (by have h_ := Kd.R_ne HO_577002.out d.out (by decide); intro e_; exact h_ (by rw [e_]; rfl)) _; (with_reducible repeat apply pK); exact d.out⟩, ⟨by (with_reducible repeat apply pK); refine blk_far ?_ (by have h_ := Kd.R_ne HO_577002.out q.out (by decide); intro e_; exact h_ (by rw [e_]; rfl)) _; (with_reducible repeat apply pK); exact q.out⟩, ⟨by (with_reducible repeat apply pK); refine blk_far ?_ (by have h_ := Kd.R_ne HO_577002.out O.out (by decide); intro e_; exact h_ (by rw [e_]; rfl)) _; (with_reducible repeat apply pK); exact O.out⟩, ⟨by repeat (first | (with_reducible first | exact HB.out | apply below_alloc | apply pw_below_drewN | apply below_drew1 | refine below_set ?_ aZ.out | refine below_set ?_ aT.out | refine below_set ?_ aU.out | refine below_set ?_ e3.out) | exact HB.out)⟩⟩
                ·rw [if_neg cj] at H
                 exact absurd H (by simp)
               ·rw [if_neg ci] at H
                exact absurd H (by simp)
              ·rw [if_neg ch] at H
               exact absurd H (by simp)
             ·rw [if_neg bm] at H
              have cg : decide ((wrap64 (b + 1)) < (a.length : Int)) = false := decide_eq_false bm
              clear bm
              have H' := Z H
              clear H
              have az : 0 ≤ (b : Int) := od_
              have aA : b < (a.length : Int) := od_
              obtain ⟨ar, a8, bn⟩ := Kd.at_int (Kd.Q_reads' HO_45.out).2.2 b az aA
              cases a8
              replace az := eq_true az
              replace aA := eq_true aA
              have il := au.out
              have iC := ap.out
              have im := av.out
              have iD := aq.out
              obtain ⟨fM, fN, fO, fP, fQ, fR, gV, gW, gX, gY, gZ, g0⟩ := cells6 O.out
              have p44 : 0 ≤ ((rd a b) : Int) := od_
              have aQ : ((rd a b) : Int) < ((c.length : Int) : Int) := od_
              obtain ⟨u, ac, aN, aO, a9, d9, aM⟩ := Kd.R_form HO_577002.out (by omega)
              (first | cases aN | (injection aN with ea_ en_ ec_; (first | subst ea_ | (injection ea_ with ea_; subst ea_)); subst ec_; clear en_))
              have aZ := Z aO
              have ax := Z aM
              clear aO a9 aM
              obtain ⟨d8, aW, aP, aa, ab⟩ := Kd.R_elem HO_577002.out z44 ((rd a b) : Int) p44 aQ
              obtain rfl := k44_openM aP
              have bR : wr.cell? ⟨u, ((rd a b) : Int).toNat * 6, none⟩ = some (.bool ((rd_T44 c (rd a b)).f0)) := aa 0 _ rfl
              have bS : wr.cell? ⟨u, ((rd a b) : Int).toNat * 6 + 1, none⟩ = some (.bool ((rd_T44 c (rd a b)).f1.f0)) := aa 1 _ rfl
              have bT : wr.cell? ⟨u, ((rd a b) : Int).toNat * 6 + 2, none⟩ = some (.bool ((rd_T44 c (rd a b)).f1.f1)) := aa 2 _ rfl
              have bU : wr.cell? ⟨u, ((rd a b) : Int).toNat * 6 + 3, none⟩ = some (.int .i64 ((rd_T44 c (rd a b)).f1.f2)) := aa 3 _ rfl
              have bV : wr.cell? ⟨u, ((rd a b) : Int).toNat * 6 + 4, none⟩ = some (.bool ((rd_T44 c (rd a b)).f1.f3)) := aa 4 _ rfl
              have bW : wr.cell? ⟨u, ((rd a b) : Int).toNat * 6 + 5, none⟩ = some (.int .u8 ((rd_T44 c (rd a b)).f2)) := aa 5 _ rfl
              have bL : wr.frozen? ⟨u, ((rd a b) : Int).toNat * 6, none⟩ = false := ab 0
              have bM : wr.frozen? ⟨u, ((rd a b) : Int).toNat * 6 + 1, none⟩ = false := ab 1
              have bN : wr.frozen? ⟨u, ((rd a b) : Int).toNat * 6 + 2, none⟩ = false := ab 2
              have bO : wr.frozen? ⟨u, ((rd a b) : Int).toNat * 6 + 3, none⟩ = false := ab 3
              have bP : wr.frozen? ⟨u, ((rd a b) : Int).toNat * 6 + 4, none⟩ = false := ab 4
              have bQ : wr.frozen? ⟨u, ((rd a b) : Int).toNat * 6 + 5, none⟩ = false := ab 5
              clear aW aa ab aP
              replace p44 := eq_true p44
              replace aQ := eq_true aQ
              have d6 := Z (show Kd.R k44 44 wr w.heap.size (fun k_ => (w.heap.size ≤ k_)) (.slice (some ⟨u, 0, none⟩) c.length ac) c from (by (with_reducible repeat apply pR); exact HO_577002.out))
              obtain ⟨iP, cn, eg, bA, cq⟩ := Kd.R_elem d6.out z44 ((rd a b) : Int) (od_) (by have h_ : ((rd a b) : Int) < ((c.length : Int) : Int) := od_; first | exact h_ | (have e_ := (Kd.R_reads' HO_577002.out).1; omega) | simpa using h_)
              obtain rfl := k44_openM eg
              have b1 := Kd.R_seg d6.out ((rd a b) : Int) (od_) (by have h_ : ((rd a b) : Int) < ((c.length : Int) : Int) := od_; first | exact h_ | (have e_ := (Kd.R_reads' HO_577002.out).1; omega) | simpa using h_) (seg := [.int .u8 0]) (j := 5) cn bA (show 6 ≤ 6 from by decide) (x' := (⟨(rd_T44 c (rd a b)).f0, (⟨(rd_T44 c (rd a b)).f1.f0, (rd_T44 c (rd a b)).f1.f1, (rd_T44 c (rd a b)).f1.f2, (rd_T44 c (rd a b)).f1.f3⟩ : S28), 0⟩ : S44)) (k44_mkM _ _ _ (⟨(rd_T44 c (rd a b)).f0, (⟨(rd_T44 c (rd a b)).f1.f0, (rd_T44 c (rd a b)).f1.f1, (rd_T44 c (rd a b)).f1.f2, (rd_T44 c (rd a b)).f1.f3⟩ : S28), 0⟩ : S44) ) (fun _ hk => hk)
              have eK := bA 5 _ rfl
              (try simp only [show (k44).sz = 6 from rfl, Nat.mul_one, Nat.add_zero] at eK)
              have ev := cq 5
              (try simp only [show (k44).sz = 6 from rfl, Nat.mul_one, Nat.add_zero] at ev)
              clear cn bA cq eg
              go_wp2_with (first | ((with_reducible refine gate_store (t := 5) (p := 56) rfl ?_); refine sx_ 5 56 (wr.setCell ⟨u, ((rd a b) : Int).toNat * 6 + 5, none⟩ (.int .u8 0)) ?_; intro w64 hw; have hg : wr.grownBy w64 (some u) := (by rw [hw]; exact b1.2); have hp_ : Kd.R k44 44 w64 w.heap.size (fun k_ => (w.heap.size ≤ k_)) (.slice (some ⟨u, 0, none⟩) c.length ac) T := (by rw [hw, bx.out]; exact b1.1); clear b1; replace HO_6 := Z (Kd.Q_over' (v := (.slice (some ⟨u, 0, none⟩) c.length ac)) (by (with_reducible repeat (first | apply Kd.Q_alloc | apply Kd.Q_drewN | apply Kd.Q_drew)); exact HO_6.out) (Kd.R_typed HO_577002.out) (by decide) hg); replace HO_45 := Z (Kd.Q_over' (v := (.slice (some ⟨u, 0, none⟩) c.length ac)) (by (with_reducible repeat (first | apply Kd.Q_alloc | apply Kd.Q_drewN | apply Kd.Q_drew)); exact HO_45.out) (Kd.R_typed HO_577002.out) (by decide) hg); replace HO_542002 := Z (Kd.V_afterv (v := (.slice (some ⟨u, 0, none⟩) c.length ac)) (v1 := (.slice (some ⟨u, 0, none⟩) c.length ac)) (ok := (fun k_ => (an k_ ∨ w.heap.size ≤ k_) ∧ some k_ ≠ (.slice (some ar) a.length aB : Value).ownBlock ∧ some k_ ≠ (.slice (some ar) a.length aB : Value).ownBlock ∧ k_ ≠ J ∧ k_ ≠ r ∧ k_ ≠ I)) (by (with_reducible repeat apply pV); exact Kd.V_mono HO_542002.out (fun _ hk => ⟨⟨hk.1, ⟨hk.2.1, ⟨hk.2.2.1, ⟨hk.2.2.2.2.1, ⟨hk.2.2.2.2.2.1, hk.2.2.2.2.2.2⟩⟩⟩⟩⟩, hk.2.2.2.1⟩)) hg (.inl rfl)); replace d := Z (blk_grown (g := J) (o := .cells #[.int .i64 x, .int .i64 y, u542002, .int .i64 l, .bool false, .bool z] 24 (0, 0)) (vK d.out) hg (Kd.R_ne HO_577002.out d.out (by decide))); replace q := Z (blk_grown (g := r) (o := .cells #[.int .i64 0, .int .i64 0, .slice none 0 0, .int .i64 0, .bool false, .bool false] 24 (0, 0)) (vK q.out) hg (Kd.R_ne HO_577002.out q.out (by decide))); replace O := Z (blk_grown (g := I) (o := .cells #[.int .i64 ai, .int .i64 aj, .slice (some ⟨u, 0, none⟩) c.length ac, .int .i64 ak, .bool al, .bool am] 24 (0, 0)) (vK O.out) hg (Kd.R_ne HO_577002.out O.out (by decide))); replace HO_577002 := Z (hp_); replace HB := Z ((by rw [hw]; exact below_set (HB.out) aZ.out : Below w.heap.size w w64)); clear hg hw hp_))
              go_roundg k1
              case measure => have := bk.out; omega
              case rel => exact ⟨(wrap64 (b + 1)), (A), (T), (u542002), (.slice (some ⟨u, 0, none⟩) c.length ac), (dn_), H', ⟨by have := bk.out; omega⟩, ⟨by (with_reducible repeat (first | apply Kd.Q_alloc | apply Kd.Q_drewN | apply Kd.Q_drew)); exact HO_6.out⟩, ⟨by (with_reducible repeat (first | apply Kd.Q_alloc | apply Kd.Q_drewN | apply Kd.Q_drew)); exact HO_45.out⟩, ⟨by (with_reducible repeat apply pV); exact Kd.V_mono HO_542002.out (fun _ hk => ⟨hk.1.1, ⟨hk.1.2.1, ⟨hk.1.2.2.1, ⟨hk.2, ⟨hk.1.2.2.2.1, ⟨hk.1.2.2.2.2.1, hk.1.2.2.2.2.2⟩⟩⟩⟩⟩⟩)⟩, ⟨by (with_reducible repeat apply pR); exact HO_577002.out⟩, ⟨vK d.out⟩, ⟨vK q.out⟩, ⟨vK O.out⟩, ⟨bl_⟩⟩
            ·rw [if_neg a6] at H
             have e8 : (a1 == 12) = false := beq_eq_false_iff_ne.mpr a6
             have e9 : (a1 != 12) = true := bne_iff_ne.mpr a6
             have H' := Z H
             clear H
             have az : 0 ≤ (b : Int) := od_
             have aA : b < (a.length : Int) := od_
             obtain ⟨ar, a8, bn⟩ := Kd.at_int (Kd.Q_reads' HO_45.out).2.2 b az aA
             cases a8
             replace az := eq_true az
             replace aA := eq_true aA
             have io := au.out
             have iE := ap.out
             have ip := av.out
             have iF := aq.out
             obtain ⟨fS, fT, fU, fV, fW, fX, g1, g2, g3, g4, g5, g6⟩ := cells6 O.out
             have p44 : 0 ≤ ((rd a b) : Int) := od_
             have aQ : ((rd a b) : Int) < ((c.length : Int) : Int) := od_
             obtain ⟨u, ac, aN, aO, a9, d9, aM⟩ := Kd.R_form HO_577002.out (by omega)
             (first | cases aN | (injection aN with ea_ en_ ec_; (first | subst ea_ | (injection ea_ with ea_; subst ea_)); subst ec_; clear en_))
             have aZ := Z aO
             have ax := Z aM
             clear aO a9 aM
             obtain ⟨d8, aW, aP, aa, ab⟩ := Kd.R_elem HO_577002.out z44 ((rd a b) : Int) p44 aQ
             obtain rfl := k44_openM aP
             have bR : wr.cell? ⟨u, ((rd a b) : Int).toNat * 6, none⟩ = some (.bool ((rd_T44 c (rd a b)).f0)) := aa 0 _ rfl
             have bS : wr.cell? ⟨u, ((rd a b) : Int).toNat * 6 + 1, none⟩ = some (.bool ((rd_T44 c (rd a b)).f1.f0)) := aa 1 _ rfl
             have bT : wr.cell? ⟨u, ((rd a b) : Int).toNat * 6 + 2, none⟩ = some (.bool ((rd_T44 c (rd a b)).f1.f1)) := aa 2 _ rfl
             have bU : wr.cell? ⟨u, ((rd a b) : Int).toNat * 6 + 3, none⟩ = some (.int .i64 ((rd_T44 c (rd a b)).f1.f2)) := aa 3 _ rfl
             have bV : wr.cell? ⟨u, ((rd a b) : Int).toNat * 6 + 4, none⟩ = some (.bool ((rd_T44 c (rd a b)).f1.f3)) := aa 4 _ rfl
             have bW : wr.cell? ⟨u, ((rd a b) : Int).toNat * 6 + 5, none⟩ = some (.int .u8 ((rd_T44 c (rd a b)).f2)) := aa 5 _ rfl
             have bL : wr.frozen? ⟨u, ((rd a b) : Int).toNat * 6, none⟩ = false := ab 0
             have bM : wr.frozen? ⟨u, ((rd a b) : Int).toNat * 6 + 1, none⟩ = false := ab 1
             have bN : wr.frozen? ⟨u, ((rd a b) : Int).toNat * 6 + 2, none⟩ = false := ab 2
             have bO : wr.frozen? ⟨u, ((rd a b) : Int).toNat * 6 + 3, none⟩ = false := ab 3
             have bP : wr.frozen? ⟨u, ((rd a b) : Int).toNat * 6 + 4, none⟩ = false := ab 4
             have bQ : wr.frozen? ⟨u, ((rd a b) : Int).toNat * 6 + 5, none⟩ = false := ab 5
             clear aW aa ab aP
             replace p44 := eq_true p44
             replace aQ := eq_true aQ
             have d7 := Z (show Kd.R k44 44 wr w.heap.size (fun k_ => (w.heap.size ≤ k_)) (.slice (some ⟨u, 0, none⟩) c.length ac) c from (by (with_reducible repeat apply pR); exact HO_577002.out))
             obtain ⟨iQ, co, eh, bB, cr⟩ := Kd.R_elem d7.out z44 ((rd a b) : Int) (od_) (by have h_ : ((rd a b) : Int) < ((c.length : Int) : Int) := od_; first | exact h_ | (have e_ := (Kd.R_reads' HO_577002.out).1; omega) | simpa using h_)
             obtain rfl := k44_openM eh
             have b2 := Kd.R_seg d7.out ((rd a b) : Int) (od_) (by have h_ : ((rd a b) : Int) < ((c.length : Int) : Int) := od_; first | exact h_ | (have e_ := (Kd.R_reads' HO_577002.out).1; omega) | simpa using h_) (seg := [.int .u8 0]) (j := 5) co bB (show 6 ≤ 6 from by decide) (x' := (⟨(rd_T44 c (rd a b)).f0, (⟨(rd_T44 c (rd a b)).f1.f0, (rd_T44 c (rd a b)).f1.f1, (rd_T44 c (rd a b)).f1.f2, (rd_T44 c (rd a b)).f1.f3⟩ : S28), 0⟩ : S44)) (k44_mkM _ _ _ (⟨(rd_T44 c (rd a b)).f0, (⟨(rd_T44 c (rd a b)).f1.f0, (rd_T44 c (rd a b)).f1.f1, (rd_T44 c (rd a b)).f1.f2, (rd_T44 c (rd a b)).f1.f3⟩ : S28), 0⟩ : S44) ) (fun _ hk => hk)
             have eL := bB 5 _ rfl
             (try simp only [show (k44).sz = 6 from rfl, Nat.mul_one, Nat.add_zero] at eL)
             have ew := cr 5
             (try simp only [show (k44).sz = 6 from rfl, Nat.mul_one, Nat.add_zero] at ew)
             clear co bB cr eh
             go_wp2_with (first | ((with_reducible refine gate_store (t := 5) (p := 56) rfl ?_); refine sx_ 5 56 (wr.setCell ⟨u, ((rd a b) : Int).toNat * 6 + 5, none⟩ (.int .u8 0)) ?_; intro e1 hw; have hg : wr.grownBy e1 (some u) := (by rw [hw]; exact b2.2); have hp_ : Kd.R k44 44 e1 w.heap.size (fun k_ => (w.heap.size ≤ k_)) (.slice (some ⟨u, 0, none⟩) c.length ac) T := (by rw [hw, bx.out]; exact b2.1); clear b2; replace HO_6 := Z (Kd.Q_over' (v := (.slice (some ⟨u, 0, none⟩) c.length ac)) (by (with_reducible repeat (first | apply Kd.Q_alloc | apply Kd.Q_drewN | apply Kd.Q_drew)); exact HO_6.out) (Kd.R_typed HO_577002.out) (by decide) hg); replace HO_45 := Z (Kd.Q_over' (v := (.slice (some ⟨u, 0, none⟩) c.length ac)) (by (with_reducible repeat (first | apply Kd.Q_alloc | apply Kd.Q_drewN | apply Kd.Q_drew)); exact HO_45.out) (Kd.R_typed HO_577002.out) (by decide) hg); replace HO_542002 := Z (Kd.V_afterv (v := (.slice (some ⟨u, 0, none⟩) c.length ac)) (v1 := (.slice (some ⟨u, 0, none⟩) c.length ac)) (ok := (fun k_ => (an k_ ∨ w.heap.size ≤ k_) ∧ some k_ ≠ (.slice (some ar) a.length aB : Value).ownBlock ∧ some k_ ≠ (.slice (some ar) a.length aB : Value).ownBlock ∧ k_ ≠ J ∧ k_ ≠ r ∧ k_ ≠ I)) (by (with_reducible repeat apply pV); exact Kd.V_mono HO_542002.out (fun _ hk => ⟨⟨hk.1, ⟨hk.2.1, ⟨hk.2.2.1, ⟨hk.2.2.2.2.1, ⟨hk.2.2.2.2.2.1, hk.2.2.2.2.2.2⟩⟩⟩⟩⟩, hk.2.2.2.1⟩)) hg (.inl rfl)); replace d := Z (blk_grown (g := J) (o := .cells #[.int .i64 x, .int .i64 y, u542002, .int .i64 l, .bool false, .bool z] 24 (0, 0)) (vK d.out) hg (Kd.R_ne HO_577002.out d.out (by decide))); replace q := Z (blk_grown (g := r) (o := .cells #[.int .i64 0, .int .i64 0, .slice none 0 0, .int .i64 0, .bool false, .bool false] 24 (0, 0)) (vK q.out) hg (Kd.R_ne HO_577002.out q.out (by decide))); replace O := Z (blk_grown (g := I) (o := .cells #[.int .i64 ai, .int .i64 aj, .slice (some ⟨u, 0, none⟩) c.length ac, .int .i64 ak, .bool al, .bool am] 24 (0, 0)) (vK O.out) hg (Kd.R_ne HO_577002.out O.out (by decide))); replace HO_577002 := Z (hp_); replace HB := Z ((by rw [hw]; exact below_set (HB.out) aZ.out : Below w.heap.size w e1)); clear hg hw hp_))
             go_roundg k1
             case measure => have := bk.out; omega
             case rel => exact ⟨(wrap64 (b + 1)), (A), (T), (u542002), (.slice (some ⟨u, 0, none⟩) c.length ac), (dn_), H', ⟨by have := bk.out; omega⟩, ⟨by (with_reducible repeat (first | apply Kd.Q_alloc | apply Kd.Q_drewN | apply Kd.Q_drew)); exact HO_6.out⟩, ⟨by (with_reducible repeat (first | apply Kd.Q_alloc | apply Kd.Q_drewN | apply Kd.Q_drew)); exact HO_45.out⟩, ⟨by (with_reducible repeat apply pV); exact Kd.V_mono HO_542002.out (fun _ hk => ⟨hk.1.1, ⟨hk.1.2.1, ⟨hk.1.2.2.1, ⟨hk.2, ⟨hk.1.2.2.2.1, ⟨hk.1.2.2.2.2.1, hk.1.2.2.2.2.2⟩⟩⟩⟩⟩⟩)⟩, ⟨by (with_reducible repeat apply pR); exact HO_577002.out⟩, ⟨vK d.out⟩, ⟨vK q.out⟩, ⟨vK O.out⟩, ⟨bl_⟩⟩
           ·rw [if_neg cf] at H
            exact absurd H (by simp)
          ·rw [if_neg ce] at H
           exact absurd H (by simp)
         ·rw [if_neg cd] at H
          exact absurd H (by simp)
        ·rw [if_neg cc] at H
         exact absurd H (by simp)
       ·rw [if_neg bl] at H
        have e7 : decide (b < (a.length : Int)) = false := decide_eq_false bl
        clear bl
        simp only [Option.some.injEq, Prod.mk.injEq] at H
        obtain ⟨rfl, rfl, rfl, rfl, rfl, rfl, rfl, rfl⟩ := H
        have iq := au.out
        have iG := ap.out
        have ir := av.out
        have iH := aq.out
        obtain ⟨fY, fZ, ga, gb, gc, gd, g7, g8, g9, ha, hc, he⟩ := cells6 O.out
        have it := af.out
        have iI := ae.out
        obtain ⟨ge, gf, gg, gh, gi, gj, hf, hh, hj, hl, hm, hp⟩ := cells6 q.out
        obtain ⟨fm, fn, ft⟩ := Kd.R_slice HO_577002.out
        subst ft
        go_wp2
        refine bodyPost_ret (results_ct rfl _ _ r 24 #[.int .i64 ai, .int .i64 aj, .slice fm c.length fn, .int .i64 ak, .bool al, .bool am] (0, 0) _ rfl (put6 q.out) Tryd.underlying24 rfl (by kernel_rfl)) rfl ?_
        exact ⟨_, _, er_, Kd.V_mono (Kd.R_V (by (with_reducible repeat apply pR); exact R_off HO_577002.out q.out (by decide) off2_)) (fun k_ hk => by first | exact ⟨(.inr (hk.1)), hk.2⟩ | exact (.inr (hk))), Kd.R_V (Kd.R_nil _ _ _ 0 _), bl_⟩
    ·replace bJ := Bool.eq_false_iff.mpr bJ
     subst bJ
     have H1 : ((edit_Deny.f x y s l false z (some (Er.num 8)) ([] : List (S184))).bind fun B => (some (B.1, B.2.1, B.2.2.1, B.2.2.2.1, B.2.2.2.2.1, B.2.2.2.2.2.1, B.2.2.2.2.2.2.1, B.2.2.2.2.2.2.2))) = some (r1, r2, r3, r4, r5, r6, r7, r8) := by rw [if_neg (show ¬ (false = true) by decide)] at H; exact H
     clear H
     have H := H1
     clear H1
     replace H := Option.bind_eq_some_iff.mp H
     obtain ⟨⟨ba, bb, bc, bd, be, bf, eZ, e0⟩, d2, H⟩ := H
     replace H : (some (ba, bb, bc, bd, be, bf, eZ, e0)) = some (r1, r2, r3, r4, r5, r6, r7, r8) := H
     have h0 := Z d2
     clear d2
     simp only [Option.some.injEq, Prod.mk.injEq] at H
     obtain ⟨rfl, rfl, rfl, rfl, rfl, rfl, rfl, rfl⟩ := H
     go_enter Tryd.func35, Tryd.ntmps35
     go_wp2_with (first | ((with_reducible refine gate_dst (N := 2) rfl ?_); (try (refine gate_guard (by rfl) ?_; dsimp only)); refine bx_ 2 24 #[.int .i64 x, .int .i64 y, .slice X s.length Y, .int .i64 l, .bool false, .bool z] ?_; intro J hg jm hbox hb; replace m := Z (ve m.out hg hb); have d := Z (hbox); have a2 := Z (ln_ hg : w.heap.size ≤ J); have aT := Z (ln_ hg : w.heap.size ≤ J); replace HB := Z (below_step bl_ hb); clear hb hbox hg) | ((with_reducible refine gate_dst (N := 4) rfl ?_); (try (refine gate_guard (by rfl) ?_; dsimp only)); refine bx_ 4 24 #[.int .i64 0, .int .i64 0, .slice none 0 0, .int .i64 0, .bool false, .bool false] ?_; intro r hg bi hbox hb; replace m := Z (ve m.out hg hb); have q := Z (hbox); have a3 := Z (ln_ hg : w.heap.size ≤ r); have aU := Z (ln_ hg : w.heap.size ≤ r); replace HB := Z (below_step bl_ hb); have ae := Z (nl d.out hg); have af := Z (ng d.out hg); replace d := Z (kb d.out hb); clear hb hbox hg) | ((with_reducible refine gate_callee (f := 53) rfl ?_); refine goesL_ (some 12) rfl rfl Tryd.func53 (by kernel_rfl) rfl #[.int .i64 a1] rfl ag_ ?_; (with_reducible refine (wipe_Wipes.calls a1 true _ A3.out).mono ?_); rintro e w' ⟨rfl, ⟨nd, rfl⟩⟩; refine ⟨_, rfl, ?_⟩; (try (rw [drewN_self bi]; generalize hq_ : World.drewN bi _ = bi; replace m := Z (qV hq_ m.out); replace d := Z (qM hq_ d.out); replace q := Z (qM hq_ q.out); replace HB := Z (qB hq_ HB.out); clear hq_)); have iu := ae.out; have iJ := af.out; obtain ⟨gl, gm, gn, go, gp, gq, hq, hs, ht, hu, hv, hx⟩ := cells6 d.out) | ((with_reducible refine gate_callee (f := 55) rfl ?_); refine goesL_ (some 30) rfl rfl Tryd.func55 (by kernel_rfl) rfl #[.agg #[.int .i64 x, .int .i64 y, .slice X s.length Y, .int .i64 l, .bool false, .bool z], .int .i64 l] rfl ag_ ?_; (with_reducible refine (field_Open.calls x y _ _ s l false z l false _ ?side1 ?side2 fd.out).mono ?_); (case side1 => repeat (first | exact (Kd.V_reads' m.out).2.2 | (with_reducible apply pC))); (case side2 => exact (Kd.V_reads' m.out).2.1); rintro e jn ⟨rfl, hb⟩; refine ⟨_, rfl, ?_⟩; replace m := Z (vb m.out hb); replace d := Z (kb d.out hb); replace q := Z (kb q.out hb); replace HB := Z (below_step bl_ hb); (try clear hb); (try clear bK); (try clear hk); (try clear hi); obtain ⟨gr, gs, gt, gu, gv, gw, hy, hz, hA, hB, hC, hD⟩ := cells6 d.out) | ((with_reducible refine gate_callee (f := 56) rfl ?_); refine goesL_ (some 34) rfl rfl Tryd.func56 (by kernel_rfl) rfl #[.agg #[.int .i64 x, .int .i64 y, .slice X s.length Y, .int .i64 l, .bool false, .bool z], errW (.slice none 0 0) (some (Er.num 8))] rfl ag_ ?_; (refine (edit_Deny.calls x y _ _ s l false z (some (Er.num 8)) _ _ ([] : List (S184)) ba bb bc bd be bf eZ e0 _ ?side1 ?side2 ?side3 ?side4 h0.out).mono ?_); (case side1 => repeat (first | exact (Kd.V_reads' m.out).2.2 | (with_reducible apply pC))); (case side2 => exact (Kd.V_reads' m.out).2.1); (case side3 => exact Kd.C_nil _ _); (case side4 => exact Nat.le_refl _); rintro e jo ⟨fF, iX, rfl, ay, fh, hb⟩; refine ⟨_, rfl, ?_⟩; replace m := Z (Kd.V_elder' (vV m.out) (Kd.R_base ay) hb); have b9 := Z (Kd.R_lower (Kd.R_newM (M := fun k_ => (w.heap.size ≤ k_)) (Kd.R_mono (ok' := fun k_ => True) ay (fun _ hk_ => trivial)) (below_size bl_) (fun k_ h_ => h_)) (below_size bl_)); have e4 := Z (Kd.V_lower (Kd.V_mono (ok' := fun k_ => (an k_ ∨ w.heap.size ≤ k_) ∧ some k_ ≠ (fF : Value).ownBlock ∧ k_ ≠ J ∧ k_ ≠ r) fh (fun k_ hk_ => ⟨(.inr (Nat.le_trans (below_size bl_) hk_.1)), hk_.2, (Kd.freshB (g := J) (o := .cells #[.int .i64 x, .int .i64 y, .slice X s.length Y, .int .i64 l, .bool false, .bool z] 24 (0, 0)) (vK d.out) k_ hk_.1), (Kd.freshB (g := r) (o := .cells #[.int .i64 0, .int .i64 0, .slice none 0 0, .int .i64 0, .bool false, .bool false] 24 (0, 0)) (vK q.out) k_ hk_.1)⟩)) (below_size bl_)); replace d := Z (kb d.out hb); replace q := Z (kb q.out hb); replace HB := Z (below_step bl_ hb); (try clear hb); (try clear bK); (try clear hk); (try clear hi); (try clear ay); (try clear fh); (try simp only [errW_none, errW_some]); obtain ⟨gx, gy, gz, gA, gB, gC, hE, hF, hG, hH, hI, hJ⟩ := cells6 q.out; obtain ⟨bY, b3, fu⟩ := Kd.R_slice b9.out; subst fu))
     refine bodyPost_ret (results_ct rfl _ _ r 24 #[.int .i64 ba, .int .i64 bb, .slice bY bc.length b3, .int .i64 bd, .bool be, .bool bf] (0, 0) _ rfl (put6 q.out) Tryd.underlying24 rfl (by kernel_rfl)) rfl ?_
     exact ⟨_, _, er_, Kd.V_mono (Kd.R_V (by (with_reducible repeat apply pR); exact Kd.R_mono (f6R r (Kd.R_types b9.out q.out (by decide)) (fun _ hk => hk.2)) (fun _ hk => hk.1.1))) (fun k_ hk => by first | exact ⟨(.inr (hk.1)), hk.2⟩ | exact (.inr (hk))), by (with_reducible repeat apply pV); exact Kd.V_mono (f6V r (Kd.V_mono e4.out (fun k_ hk => (⟨hk, hk.2.2.2⟩ : _ ∧ k_ ≠ r))) (fun _ hk => hk.2)) (fun _ hk => hk.1.1), bl_⟩
 ·replace c4 := Bool.eq_false_iff.mpr c4
  subst c4
  have H1 : (some (x, y, s, l, U, z, some (Er.num 1), ([] : List (S184)))) = some (r1, r2, r3, r4, r5, r6, r7, r8) := by rw [if_neg (show ¬ (false = true) by decide)] at H; exact H
  clear H
  have H := H1
  clear H1
  simp only [Option.some.injEq, Prod.mk.injEq] at H
  obtain ⟨rfl, rfl, rfl, rfl, rfl, rfl, rfl, rfl⟩ := H
  go_enter Tryd.func35, Tryd.ntmps35
  go_wp2_with (first | ((with_reducible refine gate_dst (N := 2) rfl ?_); (try (refine gate_guard (by rfl) ?_; dsimp only)); refine bx_ 2 24 #[.int .i64 x, .int .i64 y, .slice X s.length Y, .int .i64 l, .bool U, .bool z] ?_; intro J hg jp hbox hb; replace m := Z (ve m.out hg hb); have d := Z (hbox); have a2 := Z (ln_ hg : w.heap.size ≤ J); have aT := Z (ln_ hg : w.heap.size ≤ J); replace HB := Z (below_step bl_ hb); clear hb hbox hg) | ((with_reducible refine gate_dst (N := 4) rfl ?_); (try (refine gate_guard (by rfl) ?_; dsimp only)); refine bx_ 4 24 #[.int .i64 0, .int .i64 0, .slice none 0 0, .int .i64 0, .bool false, .bool false] ?_; intro r hg bj hbox hb; replace m := Z (ve m.out hg hb); have q := Z (hbox); have a3 := Z (ln_ hg : w.heap.size ≤ r); have aU := Z (ln_ hg : w.heap.size ≤ r); replace HB := Z (below_step bl_ hb); have ae := Z (nl d.out hg); have af := Z (ng d.out hg); replace d := Z (kb d.out hb); clear hb hbox hg) | ((with_reducible refine gate_callee (f := 53) rfl ?_); refine goesL_ (some 12) rfl rfl Tryd.func53 (by kernel_rfl) rfl #[.int .i64 a1] rfl ag_ ?_; (with_reducible refine (wipe_Wipes.calls a1 false _ A3.out).mono ?_); rintro e w' ⟨rfl, ⟨nd, rfl⟩⟩; refine ⟨_, rfl, ?_⟩; (try (rw [drewN_self bj]; generalize hq_ : World.drewN bj _ = bj; replace m := Z (qV hq_ m.out); replace d := Z (qM hq_ d.out); replace q := Z (qM hq_ q.out); replace HB := Z (qB hq_ HB.out); clear hq_)); have iv := ae.out; have iK := af.out; obtain ⟨gD, gE, gF, gG, gH, gI, hL, hM, hN, hO, hP, hQ⟩ := cells6 d.out; obtain ⟨gJ, gK, gL, gM, gN, gO, hR, hS, hT, hU, hV, hW⟩ := cells6 q.out))
  refine bodyPost_ret (results_ct rfl _ _ r 24 #[.int .i64 x, .int .i64 y, .slice X s.length Y, .int .i64 l, .bool U, .bool z] (0, 0) _ rfl (put6 q.out) Tryd.underlying24 rfl (by kernel_rfl)) rfl ?_
  exact ⟨_, _, er_, by (with_reducible repeat apply pV); exact Kd.V_mono (f6V r (Kd.V_mono m.out (fun k_ hk => (⟨hk, hk.2⟩ : _ ∧ k_ ≠ r))) (fun _ hk => hk.2)) (fun _ hk => hk.1.1.1), Kd.R_V (Kd.R_nil _ _ _ 0 _), bl_⟩
end Go.Proofs.YtgboplhcjhlabaaDoor.P
