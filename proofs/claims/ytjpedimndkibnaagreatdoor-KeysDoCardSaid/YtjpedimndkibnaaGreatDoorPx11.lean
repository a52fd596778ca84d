/- pp.py and press2.py (wip/tools) wrote this text. -/
import Derived.Test.YtjpedimndkibnaaGreatDoorPx0
import Derived.Test.YtjpedimndkibnaaGreatDoorPxS
import Derived.Test.YtjpedimndkibnaaGreatDoorPxT
import Derived.Test.YtjpedimndkibnaaGreatDoorPx7
import Derived.Test.YtjpedimndkibnaaGreatDoorPx8
import Derived.Test.YtjpedimndkibnaaGreatDoorPx9
import Derived.Test.YtjpedimndkibnaaGreatDoorPx10
namespace Go.Proofs.YtjpedimndkibnaaGreatDoor.P
open Go.RowKit Go.Proofs.YtjpedimndkibnaaGreatDoorW.PrintWords Go.Proofs.YtjpedimndkibnaaGreatDoorW.PrintLast Go.Proofs.YtjpedimndkibnaaGreatDoorW.PrintMore
attribute [local go_sem] max2_int min2_int max_two min_two max_three min_three max_four min_four
attribute [local go_sem] Instr.field asAgg
set_option linter.unusedVariables false
set_option linter.unusedSimpArgs false
set_option maxHeartbeats 8000000
set_option maxRecDepth 100000

/-! ### wipe_Do: function 72 -/
def wipe_Do.l0 : Nat → Int → List Int → List Int → Int → Int → Int → Int → List (S55) → Int → Bool → Bool → Int → Int → List (S55) → Int → Bool → Bool → Option (Int × Int × (List (S55)) × Int × Bool × Bool × Option Er × (List (S206)))
 | 0, _, _, _, _, _, _, _, _, _, _, _, _, _, _, _, _, _ => none
 | k + 1, s, q, c, r, a, l, m, d, n, o, p, f, g, b, h, i, j => if a < r then (if 0 ≤ a then (if a < (c.length : Int) then (if 0 ≤ (rd c a) then (if (rd c a) < (b.length : Int) then ((some (b.set ((rd c a) : Int).toNat (⟨(rd_T55 b (rd c a)).f0, (⟨(rd_T55 b (rd c a)).f1.f0, (rd_T55 b (rd c a)).f1.f1, (rd_T55 b (rd c a)).f1.f2, (rd_T55 b (rd c a)).f1.f3⟩ : S53), 0⟩ : S55) : List (S55))).bind fun e => (if s = 12 then (if (wrap64 (a + 1)) < (q.length : Int) then (if 0 ≤ (wrap64 (a + 1)) then (if 0 ≤ (rd q (wrap64 (a + 1))) then (if (rd q (wrap64 (a + 1))) < (d.length : Int) then (wipe_Do.l0 k s q c r (wrap64 (a + 1)) l m d n o p f g (e.set ((rd c a) : Int).toNat (⟨(rd_T55 e (rd c a)).f0, (⟨(rd_T55 e (rd c a)).f1.f0, (rd_T55 e (rd c a)).f1.f1, (rd_T55 e (rd c a)).f1.f2, (rd_T55 e (rd c a)).f1.f3⟩ : S53), (rd_T55 d (rd q (wrap64 (a + 1)))).f2⟩ : S55)) h i j) else (none)) else (none)) else (none)) else (wipe_Do.l0 k s q c r (wrap64 (a + 1)) l m d n o p f g e h i j)) else (wipe_Do.l0 k s q c r (wrap64 (a + 1)) l m d n o p f g e h i j))) else (none)) else (none)) else (none)) else (none)) else (some (f, g, b, h, i, j, none, ([] : List (S206))))
def wipe_Do.f (k : Nat) (d e : Int) (h : List (S55)) (a : Int) (c g : Bool) (a1 : Int) : Option (Int × Int × (List (S55)) × Int × Bool × Bool × Option Er × (List (S206))) := (wipe_Wipes.f a1).bind fun m => (if m = true then (if c = true then (some (d, e, h, a, c, g, some (Er.num 7), ([] : List (S206)))) else (if a1 = 14 then ((wipe_all.f k d e h a c g).bind fun i => (some (i.1, i.2.1, i.2.2.1, i.2.2.2.1, i.2.2.2.2.1, i.2.2.2.2.2, none, ([] : List (S206))))) else ((field_Open.f d e h a c g a).bind fun n => (if n = true then ((edit_Line.f k d e h a c g a).bind fun l => ((edit_Modify.f d e h a c g a).bind fun j => (wipe_Do.l0 k a1 l l (l.length : Int) 0 d e h a c g j.1 j.2.1 j.2.2.1 j.2.2.2.1 j.2.2.2.2.1 j.2.2.2.2.2))) else ((edit_Deny.f d e h a c g (some (Er.num 8)) ([] : List (S206))).bind fun b => (some (b.1, b.2.1, b.2.2.1, b.2.2.2.1, b.2.2.2.2.1, b.2.2.2.2.2.1, b.2.2.2.2.2.2.1, b.2.2.2.2.2.2.2))))))) else (some (d, e, h, a, c, g, some (Er.num 1), ([] : List (S206)))))
theorem wipe_Do.mono_l : ∀ k, (∀ j l m n o p q s t u a b c d e f g, LeO (wipe_Do.l0 k j l m n o p q s t u a b c d e f g) (wipe_Do.l0 (k + 1) j l m n o p q s t u a b c d e f g))
 | 0 => fun _ _ _ _ _ _ _ _ _ _ _ _ _ _ _ _ _ r h => by simp [wipe_Do.l0] at h
 | k + 1 => by
  have i := wipe_Do.mono_l k
  ·intro j l m n o p q s t u a b c d e f g
   unfold wipe_Do.l0
   repeat' first
   | (with_reducible exact i _ _ _ _ _ _ _ _ _ _ _ _ _ _ _ _ _)
   | (with_reducible exact edit_Line.mono _ _ _ _ _ _ _ _)
   | (with_reducible exact wipe_all.mono _ _ _ _ _ _ _)
   | (with_reducible exact LeO.refl _)
   | (with_reducible exact LeO.none _)
   | (with_reducible refine LeO.ite ?_ ?_)
   | (with_reducible refine LeO.bind ?_ (fun _ => ?_))
   | exact i _ _ _ _ _ _ _ _ _ _ _ _ _ _ _ _ _
   | exact edit_Line.mono _ _ _ _ _ _ _ _
   | exact wipe_all.mono _ _ _ _ _ _ _
   | exact LeO.none _
   | refine LeO.ite ?_ ?_
   | refine LeO.bind ?_ (fun _ => ?_)
theorem wipe_Do.mono : ∀ a0 a1 b c a4 d e k, LeO (wipe_Do.f k a0 a1 b c a4 d e) (wipe_Do.f (k + 1) a0 a1 b c a4 d e) := by
 intro a0 a1 b c a4 d e k
 have a := wipe_Do.mono_l k
 unfold wipe_Do.f
 repeat' first
   | (with_reducible exact a _ _ _ _ _ _ _ _ _ _ _ _ _ _ _ _ _)
   | (with_reducible exact edit_Line.mono _ _ _ _ _ _ _ _)
   | (with_reducible exact wipe_all.mono _ _ _ _ _ _ _)
   | (with_reducible exact LeO.refl _)
   | (with_reducible exact LeO.none _)
   | (with_reducible refine LeO.ite ?_ ?_)
   | (with_reducible refine LeO.bind ?_ (fun _ => ?_))
   | exact a _ _ _ _ _ _ _ _ _ _ _ _ _ _ _ _ _
   | exact edit_Line.mono _ _ _ _ _ _ _ _
   | exact wipe_all.mono _ _ _ _ _ _ _
   | exact LeO.none _
   | refine LeO.ite ?_ ?_
   | refine LeO.bind ?_ (fun _ => ?_)
def wipe_Do.T16 : Bool × List (List Nat × List Nat) := (true, [([], []), ([0], [0]), ([], []), ([], []), ([3], [3]), ([], []), ([], []), ([6], [6]), ([5, 7], [5, 7]), ([8], [8]), ([4, 9], [4, 9]), ([10], [10]), ([11], [11]), ([1, 2, 0, 1, 2, 3, 4, 5, 6, 7, 8, 9, 10, 11, 12], [1, 2]), ([13, 0, 1, 2, 3, 4, 5, 6, 7, 8, 9, 10, 11, 12], [13]), ([14, 12, 0, 1, 2, 3, 4, 5, 6, 7, 8, 9, 10, 11, 12], [12, 14])])
def wipe_Do.B16 : List Nat := [0, 1, 0, 0, 8, 0, 0, 64, 224, 480, 1016, 2040, 4088, 8191, 16383, 32767]
theorem wipe_Do.tab16 : rtab .any (opsOf Tryz.f72 16) = wipe_Do.T16 := by kernel_rfl
theorem wipe_Do.bits16 : waitsOk wipe_Do.T16.2 wipe_Do.B16 = true := by kernel_rfl
theorem wipe_Do.calls (k : Nat) (x y : Int) (an : Nat → Prop) (X : Option Addr) (Y : Nat) (s : List (S55)) (l : Int) (U z : Bool) (a1 r1 r2 : Int) (r3 : List (S55)) (r4 : Int) (r5 r6 : Bool) (r7 : Option Er) (r8 : List (S206)) (w : World) (fd : Kd.V k55 55 w w.heap.size (fun k_ => an k_) (.slice X s.length Y) s) (h : wipe_Do.f k x y s l U z a1 = some (r1, r2, r3, r4, r5, r6, r7, r8)) :
  Calls Tryz.prog 72 #[.agg #[.int .i64 x, .int .i64 y, .slice X s.length Y, .int .i64 l, .bool U, .bool z], .int .i64 a1] w fun e w' => ∃ fl fm : Value, e = .returned (.tuple #[.agg #[.int .i64 r1, .int .i64 r2, fl, .int .i64 r4, .bool r5, .bool r6], errW fm r7]) ∧ Kd.V k55 55 w' w.heap.size (fun k_ => (an k_ ∨ w.heap.size ≤ k_)) fl r3 ∧ Kd.V k206 206 w' w.heap.size (fun k_ => (an k_ ∨ w.heap.size ≤ k_)) fm r8 ∧ Below w.heap.size w w' := by
 have iU := Tryz.underlying24
 have iV := Tryz.underlying34
 have iW := Tryz.underlying69
 have m := Z (show Kd.V k55 55 w w.heap.size (fun k_ => (an k_ ∨ w.heap.size ≤ k_)) (.slice X s.length Y) s from Kd.V_mono fd (fun k_ hk => .inl hk))
 have HB := Z (Below.refl w.heap.size w)
 unfold wipe_Do.f at h
 have H := h
 clear h
 replace H := bn_ H
 obtain ⟨bC, A3, H⟩ := H
 cases bC
 ·rw [iF_] at H
  obtain ⟨rfl, rfl, rfl, rfl, rfl, rfl, rfl, rfl⟩ := ij8_ H
  go_enter Tryz.func72, Tryz.ntmps72
  go_wp2_with (first | ((with_reducible refine gD_ 2 rfl ?_); (try (refine gate_guard (by rfl) ?_; dsimp only)); refine bx_ 2 24 #[.int .i64 x, .int .i64 y, .slice X s.length Y, .int .i64 l, .bool U, .bool z] ?_; intro J hg jq hbox hb; replace m := ve' m hg hb; have d := Z hbox; have a2 := ln' w hg; replace HB := bs_ hb; clear hb hbox hg) | ((with_reducible refine gD_ 4 rfl ?_); (try (refine gate_guard (by rfl) ?_; dsimp only)); refine bx_ 4 24 zS_ ?_; intro r hg bj hbox hb; replace m := ve' m hg hb; have q := Z hbox; have a3 := ln' w hg; replace HB := bs_ hb; have ae := nl' d hg; replace d := kb' d hb; clear hb hbox hg) | ((with_reducible refine gF_ 71 rfl ?_); refine gd_ (some 12) Tryz.func71 (wipe_Wipes.calls a1 false _ A3.out) ?_; rintro e w' ⟨rfl, ⟨nd, rfl⟩⟩; refine ⟨_, rfl, ?_⟩; (try (rw [drewN_self bj]; generalize hq_ : World.drewN bj _ = bj; replace m := Z (qV hq_ m.out); replace d := Z (qM hq_ d.out); replace q := Z (qM hq_ q.out); replace HB := Z (qB hq_ HB.out); clear hq_)); have iw := ns_ ae; have gE := cells6 d.out; have gK := cells6 q.out))
  refine rc2_ (put6 q.out) Tryz.underlying24 ?_
  exact ⟨_, _, er_, by (with_reducible repeat apply pV); exact Kd.V_mono (f6V r (Kd.V_mono m.out (fun k_ hk => (⟨hk, hk.2⟩ : _ ∧ k_ ≠ r))) im_) im_, Kd.R_V (Kd.R_nil _ _ _ 0 _), bl_⟩
 rw [if_pos rfl] at H
 by_cases c5 : U = true
 ·subst c5
  rw [if_pos rfl] at H
  obtain ⟨rfl, rfl, rfl, rfl, rfl, rfl, rfl, rfl⟩ := ij8_ H
  go_enter Tryz.func72, Tryz.ntmps72
  go_wp2_with (first | ((with_reducible refine gD_ 2 rfl ?_); (try (refine gate_guard (by rfl) ?_; dsimp only)); refine bx_ 2 24 #[.int .i64 x, .int .i64 y, .slice X s.length Y, .int .i64 l, .bool true, .bool z] ?_; intro J hg w6 hbox hb; replace m := ve' m hg hb; have d := Z hbox; have a2 := ln' w hg; replace HB := bs_ hb; clear hb hbox hg) | ((with_reducible refine gD_ 4 rfl ?_); (try (refine gate_guard (by rfl) ?_; dsimp only)); refine bx_ 4 24 zS_ ?_; intro r hg w7 hbox hb; replace m := ve' m hg hb; have q := Z hbox; have a3 := ln' w hg; replace HB := bs_ hb; have ae := nl' d hg; replace d := kb' d hb; clear hb hbox hg) | ((with_reducible refine gF_ 71 rfl ?_); refine gd_ (some 12) Tryz.func71 (wipe_Wipes.calls a1 true _ A3.out) ?_; rintro e w' ⟨rfl, ⟨nd, rfl⟩⟩; refine ⟨_, rfl, ?_⟩; (try (rw [drewN_self w7]; generalize hq_ : World.drewN w7 _ = w7; replace m := Z (qV hq_ m.out); replace d := Z (qM hq_ d.out); replace q := Z (qM hq_ q.out); replace HB := Z (qB hq_ HB.out); clear hq_)); have iS := ns_ ae; have ej := cells6 d.out; have ct := cells6 q.out))
  refine rc2_ (put6 q.out) Tryz.underlying24 ?_
  exact ⟨_, _, er_, by (with_reducible repeat apply pV); exact Kd.V_mono (f6V r (Kd.V_mono m.out (fun k_ hk => (⟨hk, hk.2⟩ : _ ∧ k_ ≠ r))) im_) im_, Kd.R_V (Kd.R_nil _ _ _ 0 _), bl_⟩
 replace c5 := Bool.eq_false_iff.mpr c5
 subst c5
 rw [iF_] at H
 by_cases a0 : a1 = 14
 ·rw [if_pos a0] at H
  obtain ⟨ca, cb⟩ := eT_ a0
  clear a0
  replace H := bn_ H
  obtain ⟨⟨bD, bE, bF, bG, bH, bI⟩, hY, H⟩ := H
  try dsimp only at H
  obtain ⟨rfl, rfl, rfl, rfl, rfl, rfl, rfl, rfl⟩ := ij8_ H
  go_enter Tryz.func72, Tryz.ntmps72
  go_wp2_with (first | ((with_reducible refine gD_ 2 rfl ?_); (try (refine gate_guard (by rfl) ?_; dsimp only)); refine bx_ 2 24 #[.int .i64 x, .int .i64 y, .slice X s.length Y, .int .i64 l, .bool false, .bool z] ?_; intro J hg jf hbox hb; replace m := ve' m hg hb; have d := Z hbox; have a2 := ln' w hg; replace HB := bs_ hb; clear hb hbox hg) | ((with_reducible refine gD_ 4 rfl ?_); (try (refine gate_guard (by rfl) ?_; dsimp only)); refine bx_ 4 24 zS_ ?_; intro r hg bg hbox hb; replace m := ve' m hg hb; have q := Z hbox; have a3 := ln' w hg; replace HB := bs_ hb; have ae := nl' d hg; replace d := kb' d hb; clear hb hbox hg) | ((with_reducible refine gF_ 71 rfl ?_); refine gd_ (some 12) Tryz.func71 (wipe_Wipes.calls a1 true _ A3.out) ?_; rintro e w' ⟨rfl, ⟨nd, rfl⟩⟩; refine ⟨_, rfl, ?_⟩; (try (rw [drewN_self bg]; generalize hq_ : World.drewN bg _ = bg; replace m := Z (qV hq_ m.out); replace d := Z (qM hq_ d.out); replace q := Z (qM hq_ q.out); replace HB := Z (qB hq_ HB.out); clear hq_)); have ig := ns_ ae; have cz := cells6 d.out) | ((with_reducible refine gF_ 110 rfl ?_); refine gd_ (some 25) Tryz.func110 (wipe_all.calls k x y _ _ s l false z bD bE bF bG bH bI _ (vC_ m) (vL_ m) hY.out) ?_; rintro e jg ⟨iX, rfl, ay, hb⟩; refine ⟨_, rfl, ?_⟩; replace m := Z (Kd.V_elder' (vV m.out) (Kd.R_base ay) hb); have b8 := Z (Kd.R_lower (Kd.R_newM (M := fun k_ => (w.heap.size ≤ k_)) ay (below_size bl_) (fun k_ h_ => h_)) (below_size bl_)); replace d := kb' d hb; replace q := kb' q hb; replace HB := bs_ hb; (try clear hb); (try clear hk); (try clear ay); have cF := cells6 q.out; obtain ⟨d4, eb, fr⟩ := Kd.R_slice b8.out; subst fr))
  refine rc2_ (put6 q.out) Tryz.underlying24 ?_
  exact ⟨_, _, er_, Kd.V_mono (Kd.R_V (by (with_reducible repeat apply pR); exact Kd.R_mono (f6R r (Kd.R_types b8.out q.out (by decide)) im_) (fun _ hk => hk.1.1))) (fun k_ hk => by first | exact ⟨(.inr (hk.1)), hk.2⟩ | exact (.inr (hk))), Kd.R_V (Kd.R_nil _ _ _ 0 _), bl_⟩
 rw [if_neg a0] at H
 obtain ⟨ca, cb⟩ := eF_ a0
 replace H := bn_ H
 obtain ⟨aC, fe, H⟩ := H
 cases aC
 ·rw [iF_] at H
  replace H := bn_ H
  obtain ⟨⟨ba, bb, bc, bd, be, bf, e0, e1⟩, h1, H⟩ := H
  try dsimp only at H
  obtain ⟨rfl, rfl, rfl, rfl, rfl, rfl, rfl, rfl⟩ := ij8_ H
  go_enter Tryz.func72, Tryz.ntmps72
  go_wp2_with (first | ((with_reducible refine gD_ 2 rfl ?_); (try (refine gate_guard (by rfl) ?_; dsimp only)); refine bx_ 2 24 #[.int .i64 x, .int .i64 y, .slice X s.length Y, .int .i64 l, .bool false, .bool z] ?_; intro J hg jn hbox hb; replace m := ve' m hg hb; have d := Z hbox; have a2 := ln' w hg; replace HB := bs_ hb; clear hb hbox hg) | ((with_reducible refine gD_ 4 rfl ?_); (try (refine gate_guard (by rfl) ?_; dsimp only)); refine bx_ 4 24 zS_ ?_; intro r hg bi hbox hb; replace m := ve' m hg hb; have q := Z hbox; have a3 := ln' w hg; replace HB := bs_ hb; have ae := nl' d hg; replace d := kb' d hb; clear hb hbox hg) | ((with_reducible refine gF_ 71 rfl ?_); refine gd_ (some 12) Tryz.func71 (wipe_Wipes.calls a1 true _ A3.out) ?_; rintro e w' ⟨rfl, ⟨nd, rfl⟩⟩; refine ⟨_, rfl, ?_⟩; (try (rw [drewN_self bi]; generalize hq_ : World.drewN bi _ = bi; replace m := Z (qV hq_ m.out); replace d := Z (qM hq_ d.out); replace q := Z (qM hq_ q.out); replace HB := Z (qB hq_ HB.out); clear hq_)); have iv := ns_ ae; have gm := cells6 d.out) | ((with_reducible refine gF_ 53 rfl ?_); refine gd_ (some 30) Tryz.func53 (field_Open.calls x y _ _ s l false z l false _ (vC_ m) (vL_ m) fe.out) ?_; rintro e jo ⟨rfl, hb⟩; refine ⟨_, rfl, ?_⟩; replace m := vb' m hb; replace d := kb' d hb; replace q := kb' q hb; replace HB := bs_ hb; (try clear hb); (try clear hk); have gs := cells6 d.out) | ((with_reducible refine gate_callee (f := 111) rfl ?_); refine goesL_ (some 34) rfl rfl Tryz.func111 (by kernel_rfl) rfl #[.agg #[.int .i64 x, .int .i64 y, .slice X s.length Y, .int .i64 l, .bool false, .bool z], errW (.slice none 0 0) (some (Er.num 8))] rfl ag_ ?_; (refine (edit_Deny.calls x y _ _ s l false z (some (Er.num 8)) _ _ ([] : List (S206)) ba bb bc bd be bf e0 e1 _ ?side1 ?side2 ?side3 ?side4 h1.out).mono ?_); (case side1 => repeat (first | exact (Kd.V_reads' m.out).2.2 | (with_reducible apply pC))); (case side2 => exact (Kd.V_reads' m.out).2.1); (case side3 => exact Kd.C_nil _ _); (case side4 => exact Nat.le_refl _); rintro e jp ⟨fG, iY, rfl, ay, fi, hb⟩; refine ⟨_, rfl, ?_⟩; replace m := Z (Kd.V_elder' (vV m.out) (Kd.R_base ay) hb); have b9 := Z (Kd.R_lower (Kd.R_newM (M := fun k_ => (w.heap.size ≤ k_)) (Kd.R_mono (ok' := fun k_ => True) ay (fun _ hk_ => trivial)) (below_size bl_) (fun k_ h_ => h_)) (below_size bl_)); have e5 := Z (Kd.V_lower (Kd.V_mono (ok' := fun k_ => (an k_ ∨ w.heap.size ≤ k_) ∧ some k_ ≠ (fG : Value).ownBlock ∧ k_ ≠ J ∧ k_ ≠ r) fi (fun k_ hk_ => ⟨(.inr (Nat.le_trans (below_size bl_) hk_.1)), hk_.2, (Kd.freshB (g := J) (o := .cells #[.int .i64 x, .int .i64 y, .slice X s.length Y, .int .i64 l, .bool false, .bool z] 24 (0, 0)) (vK d.out) k_ hk_.1), (Kd.freshB (g := r) (o := .cells zS_ 24 (0, 0)) (vK q.out) k_ hk_.1)⟩)) (below_size bl_)); replace d := kb' d hb; replace q := kb' q hb; replace HB := bs_ hb; (try clear hb); (try clear hk); (try clear ay); (try clear fi); (try simp only [errW_none, errW_some]); have gy := cells6 q.out; obtain ⟨bY, b3, fv⟩ := Kd.R_slice b9.out; subst fv))
  refine rc2_ (put6 q.out) Tryz.underlying24 ?_
  exact ⟨_, _, er_, Kd.V_mono (Kd.R_V (by (with_reducible repeat apply pR); exact Kd.R_mono (f6R r (Kd.R_types b9.out q.out (by decide)) im_) (fun _ hk => hk.1.1))) (fun k_ hk => by first | exact ⟨(.inr (hk.1)), hk.2⟩ | exact (.inr (hk))), by (with_reducible repeat apply pV); exact Kd.V_mono (f6V r (Kd.V_mono e5.out (fun k_ hk => (⟨hk, hk.2.2.2⟩ : _ ∧ k_ ≠ r))) im_) im_, bl_⟩
 rw [if_pos rfl] at H
 replace H := bn_ H
 obtain ⟨a, hZ, H⟩ := H
 replace H := bn_ H
 obtain ⟨⟨ai, aj, aR, ak, al, am⟩, h0, H⟩ := H
 try dsimp only at H
 have H' := Z H
 clear H
 go_enter Tryz.func72, Tryz.ntmps72
 go_wp2_with (first | ((with_reducible refine gD_ 2 rfl ?_); (try (refine gate_guard (by rfl) ?_; dsimp only)); refine bx_ 2 24 #[.int .i64 x, .int .i64 y, .slice X s.length Y, .int .i64 l, .bool false, .bool z] ?_; intro J hg jh hbox hb; replace m := ve' m hg hb; have d := Z hbox; have a2 := ln' w hg; replace HB := bs_ hb; clear hb hbox hg) | ((with_reducible refine gD_ 4 rfl ?_); (try (refine gate_guard (by rfl) ?_; dsimp only)); refine bx_ 4 24 zS_ ?_; intro r hg bh hbox hb; replace m := ve' m hg hb; have q := Z hbox; have a3 := ln' w hg; replace HB := bs_ hb; have ae := nl' d hg; replace d := kb' d hb; clear hb hbox hg) | ((with_reducible refine gF_ 71 rfl ?_); refine gd_ (some 12) Tryz.func71 (wipe_Wipes.calls a1 true _ A3.out) ?_; rintro e w' ⟨rfl, ⟨nd, rfl⟩⟩; refine ⟨_, rfl, ?_⟩; (try (rw [drewN_self bh]; generalize hq_ : World.drewN bh _ = bh; replace m := Z (qV hq_ m.out); replace d := Z (qM hq_ d.out); replace q := Z (qM hq_ q.out); replace HB := Z (qB hq_ HB.out); clear hq_)); have ih := ns_ ae; have cL := cells6 d.out) | ((with_reducible refine gF_ 53 rfl ?_); refine gd_ (some 30) Tryz.func53 (field_Open.calls x y _ _ s l false z l true _ (vC_ m) (vL_ m) fe.out) ?_; rintro e ji ⟨rfl, hb⟩; refine ⟨_, rfl, ?_⟩; replace m := vb' m hb; replace d := kb' d hb; replace q := kb' q hb; replace HB := bs_ hb; (try clear hb); (try clear hk); have cR := cells6 d.out) | ((with_reducible refine gF_ 112 rfl ?_); refine gd_ (some 40) Tryz.func112 (edit_Line.calls k x y _ _ s l false z l a _ (vC_ m) (vL_ m) hZ.out) ?_; rintro e jj ⟨iZ, rfl, ay, hb⟩; refine ⟨_, rfl, ?_⟩; replace m := Z (Kd.V_elder' (vV m.out) (Kd.Q_base ay) hb); have aw := Z (Kd.Q_lower (Kd.Q_newM (M := fun k_ => (w.heap.size ≤ k_)) ay (below_size bl_) (fun k_ h_ => h_)) (below_size bl_)); replace d := kb' d hb; replace q := kb' q hb; replace HB := bs_ hb; (try clear hb); (try clear hk); (try clear ay); have cX := cells6 d.out) | ((with_reducible refine gF_ 113 rfl ?_); refine gd_ (some 44) Tryz.func113 (edit_Modify.calls x y _ _ s l false z l ai aj aR ak al am _ (vC_ m) (vL_ m) h0.out) ?_; rintro e jk ⟨ja, rfl, ay, hb⟩; refine ⟨_, rfl, ?_⟩; replace m := Z (Kd.V_elder' (vV m.out) (Kd.R_base ay) hb); replace aw := Z (Kd.Q_below (by (with_reducible repeat (first | apply Kd.Q_alloc | apply Kd.Q_drewN | apply Kd.Q_drew)); exact aw.out) hb); have aV := Z (Kd.R_lower (Kd.R_newM (M := fun k_ => (w.heap.size ≤ k_)) ay (below_size bl_) (fun k_ h_ => h_)) (below_size bl_)); replace d := kb' d hb; replace q := kb' q hb; replace HB := bs_ hb; (try clear hb); (try clear hk); (try clear ay)) | ((with_reducible refine gD_ 7 rfl ?_); (try (refine gate_guard (by rfl) ?_; dsimp only)); refine bx_ 7 24 zS_ ?_; intro I hg jl hbox hb; replace m := ve' m hg hb; replace aw := Z (Kd.Q_below (by (with_reducible repeat (first | apply Kd.Q_alloc | apply Kd.Q_drewN | apply Kd.Q_drew)); exact aw.out) hb); replace aV := rb' aV hb; have O := Z hbox; have h7 := ln' w hg; replace HB := bs_ hb; have ap := nl' d hg; replace d := kb' d hb; have aq := nl' q hg; replace q := kb' q hb; clear hb hbox hg; have ii := ns_ ap; have ij := ns_ aq; have da := cells6 O.out; obtain ⟨a4, a7, fs⟩ := Kd.R_slice aV.out; subst fs; obtain ⟨bw, aB, ft, _⟩ := Kd.Q_slice aw.out; subst ft))
 go_loopg [47] k (fun kq h6 w' => ∃ (b : Int) (A : List (S55)) (c : List (S55)) (GE : Value) (GF : Value), h6 = .int .i64 b ∧ Aside0 (wipe_Do.l0 kq a1 a a (a.length : Int) b x y A l false z ai aj c ak al am = some (r1, r2, r3, r4, r5, r6, r7, r8)) ∧ Aside0 (kq ≤ k) ∧ Aside0 (Kd.Q (Kd.int .i64) 3 w' w.heap.size (fun k_ => (w.heap.size ≤ k_)) (.slice bw a.length aB) a) ∧ Aside0 (Kd.Q (Kd.int .i64) 3 w' w.heap.size (fun k_ => (w.heap.size ≤ k_)) (.slice bw a.length aB) a) ∧ Aside0 (Kd.V k55 55 w' w.heap.size (fun k_ => (an k_ ∨ w.heap.size ≤ k_) ∧ some k_ ≠ ((.slice bw a.length aB) : Value).ownBlock ∧ some k_ ≠ ((.slice bw a.length aB) : Value).ownBlock ∧ some k_ ≠ (GF : Value).ownBlock ∧ k_ ≠ J ∧ k_ ≠ r ∧ k_ ≠ I) GE A) ∧ Aside0 (Kd.R k55 55 w' w.heap.size (fun k_ => (w.heap.size ≤ k_)) GF c) ∧ Aside0 (w'.heap[J]? = some (.cells #[.int .i64 x, .int .i64 y, GE, .int .i64 l, .bool false, .bool z] 24 (0, 0))) ∧ Aside0 (w'.heap[r]? = some (.cells zS_ 24 (0, 0))) ∧ Aside0 (w'.heap[I]? = some (.cells #[.int .i64 ai, .int .i64 aj, GF, .int .i64 ak, .bool al, .bool am] 24 (0, 0))) ∧ Aside0 (Below w.heap.size w w'))
 case atStart => exact ⟨(0), (s), (aR), (.slice X s.length Y), (.slice a4 aR.length a7), (dn_), H', ⟨Nat.le_refl _⟩, ⟨by (with_reducible repeat (first | apply Kd.Q_alloc | apply Kd.Q_drewN | apply Kd.Q_drew)); exact Kd.Q_mono (Kd.Q_far (p := ⟨I, 5, none⟩) (Kd.Q_far (p := ⟨I, 4, none⟩) (Kd.Q_far (p := ⟨I, 3, none⟩) (Kd.Q_far (p := ⟨I, 2, none⟩) (Kd.Q_far (p := ⟨I, 1, none⟩) (Kd.Q_far (p := ⟨I, 0, none⟩) (Kd.Q_types aw.out O.out (by decide)) im_ (.int .i64 ai)) im_ (.int .i64 aj)) im_ (.slice a4 aR.length a7)) im_ (.int .i64 ak)) im_ (.bool al)) im_ (.bool am)) im_⟩, ⟨by (with_reducible repeat (first | apply Kd.Q_alloc | apply Kd.Q_drewN | apply Kd.Q_drew)); exact Kd.Q_mono (Kd.Q_far (p := ⟨I, 5, none⟩) (Kd.Q_far (p := ⟨I, 4, none⟩) (Kd.Q_far (p := ⟨I, 3, none⟩) (Kd.Q_far (p := ⟨I, 2, none⟩) (Kd.Q_far (p := ⟨I, 1, none⟩) (Kd.Q_far (p := ⟨I, 0, none⟩) (Kd.Q_types aw.out O.out (by decide)) im_ (.int .i64 ai)) im_ (.int .i64 aj)) im_ (.slice a4 aR.length a7)) im_ (.int .i64 ak)) im_ (.bool al)) im_ (.bool am)) im_⟩, ⟨by (with_reducible repeat apply pV); exact Kd.V_mono (f6V I (Kd.V_mono m.out (fun k_ hk => (⟨hk, hk.2⟩ : _ ∧ k_ ≠ I))) im_) im_⟩, ⟨by (with_reducible repeat apply pR); exact Kd.R_mono (f6R I (Kd.R_types aV.out O.out (by decide)) im_) im_⟩, ⟨blk_off d.out ap.out off2_⟩, ⟨blk_off q.out aq.out off2_⟩, ⟨put6 O.out⟩, ⟨bl_⟩⟩
 case round =>
  clear H'
  try clear c4
  try clear c5
  try clear a0
  try clear ca
  try clear cb
  try clear bJ
  try clear cL
  try clear cR
  try clear cX
  try clear da
  obtain ⟨b, A, c, GE, GF, rfl, HA, bk, GD, GC, GA, GB, d, q, O, HB⟩ := hrel
  cases gk with
  | zero => exact absurd HA.out (by simp [wipe_Do.l0])
  | succ k1 =>
   have H := HA.out
   clear HA
   simp only [wipe_Do.l0] at H
   by_cases bl : b < (a.length : Int)
   rotate_left
   ·rw [if_neg bl] at H
    have e8 := decide_eq_false bl
    clear bl
    obtain ⟨rfl, rfl, rfl, rfl, rfl, rfl, rfl, rfl⟩ := ij8_ H
    have ir := ns_ ap
    have it := ns_ aq
    have fZ := cells6 O.out
    have iu := ns_ ae
    have gf := cells6 q.out
    obtain ⟨fn, fo, fu⟩ := Kd.R_slice GB.out
    subst fu
    go_wp2
    refine rc2_ (put6 q.out) Tryz.underlying24 ?_
    exact ⟨_, _, er_, Kd.V_mono (Kd.R_V (by (with_reducible repeat apply pR); exact R_off GB.out q.out (by decide) off2_)) (fun k_ hk => by first | exact ⟨(.inr (hk.1)), hk.2⟩ | exact (.inr (hk))), Kd.R_V (Kd.R_nil _ _ _ 0 _), bl_⟩
   rw [if_pos bl] at H
   have e8 := decide_eq_true bl
   clear bl
   obtain ⟨cc, H⟩ := gt_ H
   have h8 := decide_eq_true cc
   clear cc
   obtain ⟨cd, H⟩ := gt_ H
   have h9 := decide_eq_true cd
   clear cd
   obtain ⟨ce, H⟩ := gt_ H
   have ia := decide_eq_true ce
   clear ce
   obtain ⟨cf, H⟩ := gt_ H
   have ib := decide_eq_true cf
   clear cf
   obtain ⟨T, aX⟩ : ∃ y_ : List (S55), y_ = (c.set ((rd a b) : Int).toNat (⟨(rd_T55 c (rd a b)).f0, (⟨(rd_T55 c (rd a b)).f1.f0, (rd_T55 c (rd a b)).f1.f1, (rd_T55 c (rd a b)).f1.f2, (rd_T55 c (rd a b)).f1.f3⟩ : S53), 0⟩ : S55)) := ⟨_, rfl⟩
   replace H : (if a1 = 12 then (if (wrap64 (b + 1)) < (a.length : Int) then (if 0 ≤ (wrap64 (b + 1)) then (if 0 ≤ (rd a (wrap64 (b + 1))) then (if (rd a (wrap64 (b + 1))) < (A.length : Int) then (wipe_Do.l0 k1 a1 a a (a.length : Int) (wrap64 (b + 1)) x y A l false z ai aj (T.set ((rd a b) : Int).toNat (⟨(rd_T55 T (rd a b)).f0, (⟨(rd_T55 T (rd a b)).f1.f0, (rd_T55 T (rd a b)).f1.f1, (rd_T55 T (rd a b)).f1.f2, (rd_T55 T (rd a b)).f1.f3⟩ : S53), (rd_T55 A (rd a (wrap64 (b + 1)))).f2⟩ : S55)) ak al am) else (none)) else (none)) else (none)) else (wipe_Do.l0 k1 a1 a a (a.length : Int) (wrap64 (b + 1)) x y A l false z ai aj T ak al am)) else (wipe_Do.l0 k1 a1 a a (a.length : Int) (wrap64 (b + 1)) x y A l false z ai aj T ak al am)) = some (r1, r2, r3, r4, r5, r6, r7, r8) := by first | (rw [aX]; with_reducible exact H) | (have a5 := (Option.bind_some _ _).symm.trans H; rw [aX]; with_reducible exact a5) | (have a5 := (Option.bind_some _ _).symm.trans H; with_reducible exact a5) | with_reducible exact H | (rw [aX]; exact H) | exact H
   have bx := Z aX
   clear aX
   by_cases a6 : a1 = 12
   rotate_left
   ·rw [if_neg a6] at H
    obtain ⟨e9, fa⟩ := eF_ a6
    have H' := Z H
    clear H
    have az : 0 ≤ (b : Int) := od_
    have aA : b < (a.length : Int) := od_
    obtain ⟨ar, a8, bn⟩ := Kd.at_int (Kd.Q_reads' GC.out).2.2 b az aA
    cases a8
    replace az := eq_true az
    replace aA := eq_true aA
    have ip := ns_ ap
    have iq := ns_ aq
    have fT := cells6 O.out
    have p44 : 0 ≤ ((rd a b) : Int) := od_
    have aQ : ((rd a b) : Int) < ((c.length : Int) : Int) := od_
    obtain ⟨u, ac, aN, aO, a9, ea, aM⟩ := Kd.R_form GB.out (by omega)
    (first | cases aN | (injection aN with ea_ en_ ec_; (first | subst ea_ | (injection ea_ with ea_; subst ea_)); subst ec_; clear en_))
    have aZ := Z aO
    have ax := Z aM
    clear aO a9 aM
    obtain ⟨d9, aW, aP, aa, ab⟩ := Kd.R_elem GB.out z55 ((rd a b) : Int) p44 aQ
    obtain rfl := k55_openM aP
    have bR : wr.cell? ⟨u, ((rd a b) : Int).toNat * 6, none⟩ = some (.bool ((rd_T55 c (rd a b)).f0)) := aa 0 _ rfl
    have bS : wr.cell? ⟨u, ((rd a b) : Int).toNat * 6 + 1, none⟩ = some (.bool ((rd_T55 c (rd a b)).f1.f0)) := aa 1 _ rfl
    have bT : wr.cell? ⟨u, ((rd a b) : Int).toNat * 6 + 2, none⟩ = some (.bool ((rd_T55 c (rd a b)).f1.f1)) := aa 2 _ rfl
    have bU : wr.cell? ⟨u, ((rd a b) : Int).toNat * 6 + 3, none⟩ = some (.int .i64 ((rd_T55 c (rd a b)).f1.f2)) := aa 3 _ rfl
    have bV : wr.cell? ⟨u, ((rd a b) : Int).toNat * 6 + 4, none⟩ = some (.bool ((rd_T55 c (rd a b)).f1.f3)) := aa 4 _ rfl
    have bW : wr.cell? ⟨u, ((rd a b) : Int).toNat * 6 + 5, none⟩ = some (.int .u8 ((rd_T55 c (rd a b)).f2)) := aa 5 _ rfl
    have bL : wr.frozen? ⟨u, ((rd a b) : Int).toNat * 6, none⟩ = false := ab 0
    have bM : wr.frozen? ⟨u, ((rd a b) : Int).toNat * 6 + 1, none⟩ = false := ab 1
    have bN : wr.frozen? ⟨u, ((rd a b) : Int).toNat * 6 + 2, none⟩ = false := ab 2
    have bO : wr.frozen? ⟨u, ((rd a b) : Int).toNat * 6 + 3, none⟩ = false := ab 3
    have bP : wr.frozen? ⟨u, ((rd a b) : Int).toNat * 6 + 4, none⟩ = false := ab 4
    have bQ : wr.frozen? ⟨u, ((rd a b) : Int).toNat * 6 + 5, none⟩ = false := ab 5
    clear aW aa ab aP
    replace p44 := eq_true p44
    replace aQ := eq_true aQ
    have d8 := Z (show Kd.R k55 55 wr w.heap.size (fun k_ => (w.heap.size ≤ k_)) (.slice (some ⟨u, 0, none⟩) c.length ac) c from (by (with_reducible repeat apply pR); exact GB.out))
    obtain ⟨iR, co, ei, bB, cr⟩ := Kd.R_elem d8.out z55 ((rd a b) : Int) (od_) (by have h_ : ((rd a b) : Int) < ((c.length : Int) : Int) := od_; first | exact h_ | (have e_ := (Kd.R_reads' GB.out).1; omega) | simpa using h_)
    obtain rfl := k55_openM ei
    have b2 := Kd.R_seg d8.out ((rd a b) : Int) (od_) (by have h_ : ((rd a b) : Int) < ((c.length : Int) : Int) := od_; first | exact h_ | (have e_ := (Kd.R_reads' GB.out).1; omega) | simpa using h_) (seg := [.int .u8 0]) (j := 5) co bB (show 6 ≤ 6 from by decide) (x' := (⟨(rd_T55 c (rd a b)).f0, (⟨(rd_T55 c (rd a b)).f1.f0, (rd_T55 c (rd a b)).f1.f1, (rd_T55 c (rd a b)).f1.f2, (rd_T55 c (rd a b)).f1.f3⟩ : S53), 0⟩ : S55)) (k55_mkM _ _ _ (⟨(rd_T55 c (rd a b)).f0, (⟨(rd_T55 c (rd a b)).f1.f0, (rd_T55 c (rd a b)).f1.f1, (rd_T55 c (rd a b)).f1.f2, (rd_T55 c (rd a b)).f1.f3⟩ : S53), 0⟩ : S55) ) (fun _ hk => hk)
    have eM := bB 5 _ rfl
    (try simp only [show (k55).sz = 6 from rfl, Nat.mul_one, Nat.add_zero] at eM)
    have ex := cr 5
    (try simp only [show (k55).sz = 6 from rfl, Nat.mul_one, Nat.add_zero] at ex)
    clear co bB cr ei
    go_wp2_with (first | ((with_reducible refine gate_store (t := 5) (p := 56) rfl ?_); refine sx_ 5 56 (wr.setCell ⟨u, ((rd a b) : Int).toNat * 6 + 5, none⟩ (.int .u8 0)) ?_; intro e2 hw; have hg : wr.grownBy e2 (some u) := (by rw [hw]; exact b2.2); have hp_ : Kd.R k55 55 e2 w.heap.size (fun k_ => (w.heap.size ≤ k_)) (.slice (some ⟨u, 0, none⟩) c.length ac) T := (by rw [hw, bx.out]; exact b2.1); clear b2; replace GD := Z (Kd.Q_over' (v := (.slice (some ⟨u, 0, none⟩) c.length ac)) (by (with_reducible repeat (first | apply Kd.Q_alloc | apply Kd.Q_drewN | apply Kd.Q_drew)); exact GD.out) (Kd.R_typed GB.out) (by decide) hg); replace GC := Z (Kd.Q_over' (v := (.slice (some ⟨u, 0, none⟩) c.length ac)) (by (with_reducible repeat (first | apply Kd.Q_alloc | apply Kd.Q_drewN | apply Kd.Q_drew)); exact GC.out) (Kd.R_typed GB.out) (by decide) hg); replace GA := Z (Kd.V_afterv (v := (.slice (some ⟨u, 0, none⟩) c.length ac)) (v1 := (.slice (some ⟨u, 0, none⟩) c.length ac)) (ok := (fun k_ => (an k_ ∨ w.heap.size ≤ k_) ∧ some k_ ≠ (.slice (some ar) a.length aB : Value).ownBlock ∧ some k_ ≠ (.slice (some ar) a.length aB : Value).ownBlock ∧ k_ ≠ J ∧ k_ ≠ r ∧ k_ ≠ I)) (by (with_reducible repeat apply pV); exact Kd.V_mono GA.out (fun _ hk => ⟨⟨hk.1, ⟨hk.2.1, ⟨hk.2.2.1, ⟨hk.2.2.2.2.1, ⟨hk.2.2.2.2.2.1, hk.2.2.2.2.2.2⟩⟩⟩⟩⟩, hk.2.2.2.1⟩)) hg (.inl rfl)); replace d := gw_ ⟨vK d.out⟩ hg (Kd.R_ne GB.out d.out (by decide)); replace q := gw_ ⟨vK q.out⟩ hg (Kd.R_ne GB.out q.out (by decide)); replace O := gw_ ⟨vK O.out⟩ hg (Kd.R_ne GB.out O.out (by decide)); replace GB := Z (hp_); replace HB := Z ((by rw [hw]; exact below_set (HB.out) aZ.out : Below w.heap.size w e2)); clear hg hw hp_))
    go_roundg k1
    case measure => have := bk.out; omega
    case rel => exact ⟨(wrap64 (b + 1)), (A), (T), (GE), (.slice (some ⟨u, 0, none⟩) c.length ac), (dn_), H', ⟨by have := bk.out; omega⟩, ⟨by (with_reducible repeat (first | apply Kd.Q_alloc | apply Kd.Q_drewN | apply Kd.Q_drew)); exact GD.out⟩, ⟨by (with_reducible repeat (first | apply Kd.Q_alloc | apply Kd.Q_drewN | apply Kd.Q_drew)); exact GC.out⟩, ⟨by (with_reducible repeat apply pV); exact Kd.V_mono GA.out im_⟩, ⟨by (with_reducible repeat apply pR); exact GB.out⟩, ⟨vK d.out⟩, ⟨vK q.out⟩, ⟨vK O.out⟩, ⟨bl_⟩⟩
   rw [if_pos a6] at H
   obtain ⟨e9, fa⟩ := eT_ a6
   clear a6
   by_cases bm : (wrap64 (b + 1)) < (a.length : Int)
   rotate_left
   ·rw [if_neg bm] at H
    have cg := decide_eq_false bm
    clear bm
    have H' := Z H
    clear H
    have az : 0 ≤ (b : Int) := od_
    have aA : b < (a.length : Int) := od_
    obtain ⟨ar, a8, bn⟩ := Kd.at_int (Kd.Q_reads' GC.out).2.2 b az aA
    cases a8
    replace az := eq_true az
    replace aA := eq_true aA
    have im := ns_ ap
    have io := ns_ aq
    have fN := cells6 O.out
    have p44 : 0 ≤ ((rd a b) : Int) := od_
    have aQ : ((rd a b) : Int) < ((c.length : Int) : Int) := od_
    obtain ⟨u, ac, aN, aO, a9, ea, aM⟩ := Kd.R_form GB.out (by omega)
    (first | cases aN | (injection aN with ea_ en_ ec_; (first | subst ea_ | (injection ea_ with ea_; subst ea_)); subst ec_; clear en_))
    have aZ := Z aO
    have ax := Z aM
    clear aO a9 aM
    obtain ⟨d9, aW, aP, aa, ab⟩ := Kd.R_elem GB.out z55 ((rd a b) : Int) p44 aQ
    obtain rfl := k55_openM aP
    have bR : wr.cell? ⟨u, ((rd a b) : Int).toNat * 6, none⟩ = some (.bool ((rd_T55 c (rd a b)).f0)) := aa 0 _ rfl
    have bS : wr.cell? ⟨u, ((rd a b) : Int).toNat * 6 + 1, none⟩ = some (.bool ((rd_T55 c (rd a b)).f1.f0)) := aa 1 _ rfl
    have bT : wr.cell? ⟨u, ((rd a b) : Int).toNat * 6 + 2, none⟩ = some (.bool ((rd_T55 c (rd a b)).f1.f1)) := aa 2 _ rfl
    have bU : wr.cell? ⟨u, ((rd a b) : Int).toNat * 6 + 3, none⟩ = some (.int .i64 ((rd_T55 c (rd a b)).f1.f2)) := aa 3 _ rfl
    have bV : wr.cell? ⟨u, ((rd a b) : Int).toNat * 6 + 4, none⟩ = some (.bool ((rd_T55 c (rd a b)).f1.f3)) := aa 4 _ rfl
    have bW : wr.cell? ⟨u, ((rd a b) : Int).toNat * 6 + 5, none⟩ = some (.int .u8 ((rd_T55 c (rd a b)).f2)) := aa 5 _ rfl
    have bL : wr.frozen? ⟨u, ((rd a b) : Int).toNat * 6, none⟩ = false := ab 0
    have bM : wr.frozen? ⟨u, ((rd a b) : Int).toNat * 6 + 1, none⟩ = false := ab 1
    have bN : wr.frozen? ⟨u, ((rd a b) : Int).toNat * 6 + 2, none⟩ = false := ab 2
    have bO : wr.frozen? ⟨u, ((rd a b) : Int).toNat * 6 + 3, none⟩ = false := ab 3
    have bP : wr.frozen? ⟨u, ((rd a b) : Int).toNat * 6 + 4, none⟩ = false := ab 4
    have bQ : wr.frozen? ⟨u, ((rd a b) : Int).toNat * 6 + 5, none⟩ = false := ab 5
    clear aW aa ab aP
    replace p44 := eq_true p44
    replace aQ := eq_true aQ
    have d7 := Z (show Kd.R k55 55 wr w.heap.size (fun k_ => (w.heap.size ≤ k_)) (.slice (some ⟨u, 0, none⟩) c.length ac) c from (by (with_reducible repeat apply pR); exact GB.out))
    obtain ⟨iQ, cn, eh, bA, cq⟩ := Kd.R_elem d7.out z55 ((rd a b) : Int) (od_) (by have h_ : ((rd a b) : Int) < ((c.length : Int) : Int) := od_; first | exact h_ | (have e_ := (Kd.R_reads' GB.out).1; omega) | simpa using h_)
    obtain rfl := k55_openM eh
    have b1 := Kd.R_seg d7.out ((rd a b) : Int) (od_) (by have h_ : ((rd a b) : Int) < ((c.length : Int) : Int) := od_; first | exact h_ | (have e_ := (Kd.R_reads' GB.out).1; omega) | simpa using h_) (seg := [.int .u8 0]) (j := 5) cn bA (show 6 ≤ 6 from by decide) (x' := (⟨(rd_T55 c (rd a b)).f0, (⟨(rd_T55 c (rd a b)).f1.f0, (rd_T55 c (rd a b)).f1.f1, (rd_T55 c (rd a b)).f1.f2, (rd_T55 c (rd a b)).f1.f3⟩ : S53), 0⟩ : S55)) (k55_mkM _ _ _ (⟨(rd_T55 c (rd a b)).f0, (⟨(rd_T55 c (rd a b)).f1.f0, (rd_T55 c (rd a b)).f1.f1, (rd_T55 c (rd a b)).f1.f2, (rd_T55 c (rd a b)).f1.f3⟩ : S53), 0⟩ : S55) ) (fun _ hk => hk)
    have eL := bA 5 _ rfl
    (try simp only [show (k55).sz = 6 from rfl, Nat.mul_one, Nat.add_zero] at eL)
    have ew := cq 5
    (try simp only [show (k55).sz = 6 from rfl, Nat.mul_one, Nat.add_zero] at ew)
    clear cn bA cq eh
    go_wp2_with (first | ((with_reducible refine gate_store (t := 5) (p := 56) rfl ?_); refine sx_ 5 56 (wr.setCell ⟨u, ((rd a b) : Int).toNat * 6 + 5, none⟩ (.int .u8 0)) ?_; intro w64 hw; have hg : wr.grownBy w64 (some u) := (by rw [hw]; exact b1.2); have hp_ : Kd.R k55 55 w64 w.heap.size (fun k_ => (w.heap.size ≤ k_)) (.slice (some ⟨u, 0, none⟩) c.length ac) T := (by rw [hw, bx.out]; exact b1.1); clear b1; replace GD := Z (Kd.Q_over' (v := (.slice (some ⟨u, 0, none⟩) c.length ac)) (by (with_reducible repeat (first | apply Kd.Q_alloc | apply Kd.Q_drewN | apply Kd.Q_drew)); exact GD.out) (Kd.R_typed GB.out) (by decide) hg); replace GC := Z (Kd.Q_over' (v := (.slice (some ⟨u, 0, none⟩) c.length ac)) (by (with_reducible repeat (first | apply Kd.Q_alloc | apply Kd.Q_drewN | apply Kd.Q_drew)); exact GC.out) (Kd.R_typed GB.out) (by decide) hg); replace GA := Z (Kd.V_afterv (v := (.slice (some ⟨u, 0, none⟩) c.length ac)) (v1 := (.slice (some ⟨u, 0, none⟩) c.length ac)) (ok := (fun k_ => (an k_ ∨ w.heap.size ≤ k_) ∧ some k_ ≠ (.slice (some ar) a.length aB : Value).ownBlock ∧ some k_ ≠ (.slice (some ar) a.length aB : Value).ownBlock ∧ k_ ≠ J ∧ k_ ≠ r ∧ k_ ≠ I)) (by (with_reducible repeat apply pV); exact Kd.V_mono GA.out (fun _ hk => ⟨⟨hk.1, ⟨hk.2.1, ⟨hk.2.2.1, ⟨hk.2.2.2.2.1, ⟨hk.2.2.2.2.2.1, hk.2.2.2.2.2.2⟩⟩⟩⟩⟩, hk.2.2.2.1⟩)) hg (.inl rfl)); replace d := gw_ ⟨vK d.out⟩ hg (Kd.R_ne GB.out d.out (by decide)); replace q := gw_ ⟨vK q.out⟩ hg (Kd.R_ne GB.out q.out (by decide)); replace O := gw_ ⟨vK O.out⟩ hg (Kd.R_ne GB.out O.out (by decide)); replace GB := Z (hp_); replace HB := Z ((by rw [hw]; exact below_set (HB.out) aZ.out : Below w.heap.size w w64)); clear hg hw hp_))
    go_roundg k1
    case measure => have := bk.out; omega
    case rel => exact ⟨(wrap64 (b + 1)), (A), (T), (GE), (.slice (some ⟨u, 0, none⟩) c.length ac), (dn_), H', ⟨by have := bk.out; omega⟩, ⟨by (with_reducible repeat (first | apply Kd.Q_alloc | apply Kd.Q_drewN | apply Kd.Q_drew)); exact GD.out⟩, ⟨by (with_reducible repeat (first | apply Kd.Q_alloc | apply Kd.Q_drewN | apply Kd.Q_drew)); exact GC.out⟩, ⟨by (with_reducible repeat apply pV); exact Kd.V_mono GA.out im_⟩, ⟨by (with_reducible repeat apply pR); exact GB.out⟩, ⟨vK d.out⟩, ⟨vK q.out⟩, ⟨vK O.out⟩, ⟨bl_⟩⟩
   rw [if_pos bm] at H
   have cg := decide_eq_true bm
   clear bm
   obtain ⟨L, aS⟩ : ∃ j_ : Int, (wrap64 (b + 1)) = j_ := ⟨_, rfl⟩
   replace H : (if 0 ≤ (L) then (if 0 ≤ (rd a (L)) then (if (rd a (L)) < (A.length : Int) then (wipe_Do.l0 k1 a1 a a (a.length : Int) L x y A l false z ai aj (T.set ((rd a b) : Int).toNat (⟨(rd_T55 T (rd a b)).f0, (⟨(rd_T55 T (rd a b)).f1.f0, (rd_T55 T (rd a b)).f1.f1, (rd_T55 T (rd a b)).f1.f2, (rd_T55 T (rd a b)).f1.f3⟩ : S53), (rd_T55 A (rd a (L))).f2⟩ : S55)) ak al am) else (none)) else (none)) else (none)) = some (r1, r2, r3, r4, r5, r6, r7, r8) := by first | (rw [aS] at H; exact H) | (simp only [aS] at H ⊢; exact H)
   (try rw [aS] at cg)
   have h5 : (IntKind.i64.wrap (b + 1)) = L := (i64_w _).trans aS
   obtain ⟨ch, H⟩ := gt_ H
   have ic := decide_eq_true ch
   clear ch
   obtain ⟨ci, H⟩ := gt_ H
   have id := decide_eq_true ci
   clear ci
   obtain ⟨cj, H⟩ := gt_ H
   have ie := decide_eq_true cj
   clear cj
   obtain ⟨e3, aY⟩ : ∃ y_ : List (S55), y_ = (T.set ((rd a b) : Int).toNat (⟨(rd_T55 T (rd a b)).f0, (⟨(rd_T55 T (rd a b)).f1.f0, (rd_T55 T (rd a b)).f1.f1, (rd_T55 T (rd a b)).f1.f2, (rd_T55 T (rd a b)).f1.f3⟩ : S53), (rd_T55 A (rd a (L))).f2⟩ : S55)) := ⟨_, rfl⟩
   replace H : (wipe_Do.l0 k1 a1 a a (a.length : Int) L x y A l false z ai aj e3 ak al am) = some (r1, r2, r3, r4, r5, r6, r7, r8) := by first | (rw [aY]; with_reducible exact H) | (have a5 := (Option.bind_some _ _).symm.trans H; rw [aY]; with_reducible exact a5) | (have a5 := (Option.bind_some _ _).symm.trans H; with_reducible exact a5) | with_reducible exact H | (rw [aY]; exact H) | exact H
   have e6 := Z aY
   clear aY
   have H' := Z H
   clear H
   have az : 0 ≤ (b : Int) := od_
   have aA : b < (a.length : Int) := od_
   obtain ⟨ar, a8, bn⟩ := Kd.at_int (Kd.Q_reads' GC.out).2.2 b az aA
   cases a8
   replace az := eq_true az
   replace aA := eq_true aA
   have ik := ns_ ap
   have il := ns_ aq
   have fH := cells6 O.out
   have p44 : 0 ≤ ((rd a b) : Int) := od_
   have aQ : ((rd a b) : Int) < ((c.length : Int) : Int) := od_
   obtain ⟨u, ac, aN, aO, a9, ea, aM⟩ := Kd.R_form GB.out (by omega)
   (first | cases aN | (injection aN with ea_ en_ ec_; (first | subst ea_ | (injection ea_ with ea_; subst ea_)); subst ec_; clear en_))
   have aZ := Z aO
   have ax := Z aM
   clear aO a9 aM
   obtain ⟨d9, aW, aP, aa, ab⟩ := Kd.R_elem GB.out z55 ((rd a b) : Int) p44 aQ
   obtain rfl := k55_openM aP
   have bR : wr.cell? ⟨u, ((rd a b) : Int).toNat * 6, none⟩ = some (.bool ((rd_T55 c (rd a b)).f0)) := aa 0 _ rfl
   have bS : wr.cell? ⟨u, ((rd a b) : Int).toNat * 6 + 1, none⟩ = some (.bool ((rd_T55 c (rd a b)).f1.f0)) := aa 1 _ rfl
   have bT : wr.cell? ⟨u, ((rd a b) : Int).toNat * 6 + 2, none⟩ = some (.bool ((rd_T55 c (rd a b)).f1.f1)) := aa 2 _ rfl
   have bU : wr.cell? ⟨u, ((rd a b) : Int).toNat * 6 + 3, none⟩ = some (.int .i64 ((rd_T55 c (rd a b)).f1.f2)) := aa 3 _ rfl
   have bV : wr.cell? ⟨u, ((rd a b) : Int).toNat * 6 + 4, none⟩ = some (.bool ((rd_T55 c (rd a b)).f1.f3)) := aa 4 _ rfl
   have bW : wr.cell? ⟨u, ((rd a b) : Int).toNat * 6 + 5, none⟩ = some (.int .u8 ((rd_T55 c (rd a b)).f2)) := aa 5 _ rfl
   have bL : wr.frozen? ⟨u, ((rd a b) : Int).toNat * 6, none⟩ = false := ab 0
   have bM : wr.frozen? ⟨u, ((rd a b) : Int).toNat * 6 + 1, none⟩ = false := ab 1
   have bN : wr.frozen? ⟨u, ((rd a b) : Int).toNat * 6 + 2, none⟩ = false := ab 2
   have bO : wr.frozen? ⟨u, ((rd a b) : Int).toNat * 6 + 3, none⟩ = false := ab 3
   have bP : wr.frozen? ⟨u, ((rd a b) : Int).toNat * 6 + 4, none⟩ = false := ab 4
   have bQ : wr.frozen? ⟨u, ((rd a b) : Int).toNat * 6 + 5, none⟩ = false := ab 5
   clear aW aa ab aP
   replace p44 := eq_true p44
   replace aQ := eq_true aQ
   have d6 := Z (show Kd.R k55 55 wr w.heap.size (fun k_ => (w.heap.size ≤ k_)) (.slice (some ⟨u, 0, none⟩) c.length ac) c from (by (with_reducible repeat apply pR); exact GB.out))
   obtain ⟨iO, cl, ef, bz, cp⟩ := Kd.R_elem d6.out z55 ((rd a b) : Int) (od_) (by have h_ : ((rd a b) : Int) < ((c.length : Int) : Int) := od_; first | exact h_ | (have e_ := (Kd.R_reads' GB.out).1; omega) | simpa using h_)
   obtain rfl := k55_openM ef
   have bZ := Kd.R_seg d6.out ((rd a b) : Int) (od_) (by have h_ : ((rd a b) : Int) < ((c.length : Int) : Int) := od_; first | exact h_ | (have e_ := (Kd.R_reads' GB.out).1; omega) | simpa using h_) (seg := [.int .u8 0]) (j := 5) cl bz (show 6 ≤ 6 from by decide) (x' := (⟨(rd_T55 c (rd a b)).f0, (⟨(rd_T55 c (rd a b)).f1.f0, (rd_T55 c (rd a b)).f1.f1, (rd_T55 c (rd a b)).f1.f2, (rd_T55 c (rd a b)).f1.f3⟩ : S53), 0⟩ : S55)) (k55_mkM _ _ _ (⟨(rd_T55 c (rd a b)).f0, (⟨(rd_T55 c (rd a b)).f1.f0, (rd_T55 c (rd a b)).f1.f1, (rd_T55 c (rd a b)).f1.f2, (rd_T55 c (rd a b)).f1.f3⟩ : S53), 0⟩ : S55) ) (fun _ hk => hk)
   have eK := bz 5 _ rfl
   (try simp only [show (k55).sz = 6 from rfl, Nat.mul_one, Nat.add_zero] at eK)
   have ev := cp 5
   (try simp only [show (k55).sz = 6 from rfl, Nat.mul_one, Nat.add_zero] at ev)
   clear cl bz cp ef
   try go_wp2_with (first | ((with_reducible refine gate_store (t := 5) (p := 56) rfl ?_); refine sx_ 5 56 (wr.setCell ⟨u, ((rd a b) : Int).toNat * 6 + 5, none⟩ (.int .u8 0)) ?_; intro bX hw; have hg : wr.grownBy bX (some u) := (by rw [hw]; exact bZ.2); have hp_ : Kd.R k55 55 bX w.heap.size (fun k_ => (w.heap.size ≤ k_)) (.slice (some ⟨u, 0, none⟩) c.length ac) T := (by rw [hw, bx.out]; exact bZ.1); clear bZ; replace GD := Z (Kd.Q_over' (v := (.slice (some ⟨u, 0, none⟩) c.length ac)) (by (with_reducible repeat (first | apply Kd.Q_alloc | apply Kd.Q_drewN | apply Kd.Q_drew)); exact GD.out) (Kd.R_typed GB.out) (by decide) hg); replace GC := Z (Kd.Q_over' (v := (.slice (some ⟨u, 0, none⟩) c.length ac)) (by (with_reducible repeat (first | apply Kd.Q_alloc | apply Kd.Q_drewN | apply Kd.Q_drew)); exact GC.out) (Kd.R_typed GB.out) (by decide) hg); replace GA := Z (Kd.V_afterv (v := (.slice (some ⟨u, 0, none⟩) c.length ac)) (v1 := (.slice (some ⟨u, 0, none⟩) c.length ac)) (ok := (fun k_ => (an k_ ∨ w.heap.size ≤ k_) ∧ some k_ ≠ (.slice (some ar) a.length aB : Value).ownBlock ∧ some k_ ≠ (.slice (some ar) a.length aB : Value).ownBlock ∧ k_ ≠ J ∧ k_ ≠ r ∧ k_ ≠ I)) (by (with_reducible repeat apply pV); exact Kd.V_mono GA.out (fun _ hk => ⟨⟨hk.1, ⟨hk.2.1, ⟨hk.2.2.1, ⟨hk.2.2.2.2.1, ⟨hk.2.2.2.2.2.1, hk.2.2.2.2.2.2⟩⟩⟩⟩⟩, hk.2.2.2.1⟩)) hg (.inl rfl)); replace d := gw_ ⟨vK d.out⟩ hg (Kd.R_ne GB.out d.out (by decide)); replace q := gw_ ⟨vK q.out⟩ hg (Kd.R_ne GB.out q.out (by decide)); replace O := gw_ ⟨vK O.out⟩ hg (Kd.R_ne GB.out O.out (by decide)); replace GB := Z (hp_); replace HB := Z ((by rw [hw]; exact below_set (HB.out) aZ.out : Below w.heap.size w bX)); (try (replace ax := Z (show bX.heap[u]? = some (.cells _ _ (0, 0)) by rw [hw]; exact blk_set ax.out _ _))); clear hg hw hp_))
   replace GD := Z (Kd.Q_drew GD.out)
   replace GC := Z (Kd.Q_drew GC.out)
   replace GA := Z (Kd.V_drew GA.out)
   replace GB := Z (Kd.R_drew GB.out)
   replace d := Z (blk_drew d.out)
   replace q := Z (blk_drew q.out)
   replace O := Z (blk_drew O.out)
   replace HB := Z (below_drew1 HB.out)
   have b4 : 0 ≤ ((L) : Int) := od_
   have b6 : (L) < (a.length : Int) := od_
   obtain ⟨e7, fp, bo⟩ := Kd.at_int (Kd.Q_reads' GD.out).2.2 (L) b4 b6
   obtain rfl : ar = e7 := (by injection fp)
   replace b4 := eq_true b4
   replace b6 := eq_true b6
   obtain ⟨iM, ec, ed⟩ := Kd.V_slice GA.out
   (first | subst ed | (injection ed with fg h2 fh; have h3 := fg.symm; have h4 := fh.symm; clear fg h2 fh; subst h3; subst h4))
   have b5 : 0 ≤ ((rd a (L)) : Int) := od_
   have b7 : (rd a (L)) < (A.length : Int) := od_
   obtain ⟨ao, fq, bp, bq, br, bs, bt, bu⟩ := at_T55 (Kd.V_reads' GA.out).2.2 (rd a (L)) b5 b7
   cases fq
   replace b5 := eq_true b5
   replace b7 := eq_true b7
   have p51 : 0 ≤ ((rd a b) : Int) := od_
   have eQ : ((rd a b) : Int) < ((c.length : Int) : Int) := od_
   obtain ⟨iN, fb, ee, aD, aE⟩ := Kd.R_elem GB.out z55 ((rd a b) : Int) p51 eQ
   obtain rfl := k55_openM ee
   have eE : World.cell? _ ⟨u, ((rd a b) : Int).toNat * 6, none⟩ = some (.bool ((rd_T55 T (rd a b)).f0)) := aD 0 _ rfl
   have eF : World.cell? _ ⟨u, ((rd a b) : Int).toNat * 6 + 1, none⟩ = some (.bool ((rd_T55 T (rd a b)).f1.f0)) := aD 1 _ rfl
   have eG : World.cell? _ ⟨u, ((rd a b) : Int).toNat * 6 + 2, none⟩ = some (.bool ((rd_T55 T (rd a b)).f1.f1)) := aD 2 _ rfl
   have eH : World.cell? _ ⟨u, ((rd a b) : Int).toNat * 6 + 3, none⟩ = some (.int .i64 ((rd_T55 T (rd a b)).f1.f2)) := aD 3 _ rfl
   have eI : World.cell? _ ⟨u, ((rd a b) : Int).toNat * 6 + 4, none⟩ = some (.bool ((rd_T55 T (rd a b)).f1.f3)) := aD 4 _ rfl
   have eJ : World.cell? _ ⟨u, ((rd a b) : Int).toNat * 6 + 5, none⟩ = some (.int .u8 ((rd_T55 T (rd a b)).f2)) := aD 5 _ rfl
   have ep : World.frozen? _ ⟨u, ((rd a b) : Int).toNat * 6, none⟩ = false := aE 0
   have eq : World.frozen? _ ⟨u, ((rd a b) : Int).toNat * 6 + 1, none⟩ = false := aE 1
   have er : World.frozen? _ ⟨u, ((rd a b) : Int).toNat * 6 + 2, none⟩ = false := aE 2
   have es : World.frozen? _ ⟨u, ((rd a b) : Int).toNat * 6 + 3, none⟩ = false := aE 3
   have et : World.frozen? _ ⟨u, ((rd a b) : Int).toNat * 6 + 4, none⟩ = false := aE 4
   have eu : World.frozen? _ ⟨u, ((rd a b) : Int).toNat * 6 + 5, none⟩ = false := aE 5
   clear fb aD aE ee
   replace p51 := eq_true p51
   replace eQ := eq_true eQ
   obtain ⟨iP, cm, eg, ck, fc⟩ := Kd.R_elem GB.out z55 ((rd a b) : Int) (od_) (by have h_ : ((rd a b) : Int) < ((c.length : Int) : Int) := od_; first | exact h_ | (have e_ := (Kd.R_reads' GB.out).1; omega) | simpa using h_)
   obtain rfl := k55_openM eg
   have b0 := (Kd.R_seg GB.out ((rd a b) : Int) (od_) (by have h_ : ((rd a b) : Int) < ((c.length : Int) : Int) := od_; first | exact h_ | (have e_ := (Kd.R_reads' GB.out).1; omega) | simpa using h_) (seg := [.int .u8 ((rd_T55 A (rd a (L))).f2)]) (j := 5) cm ck (show 6 ≤ 6 from by decide) (x' := (⟨(rd_T55 T (rd a b)).f0, (⟨(rd_T55 T (rd a b)).f1.f0, (rd_T55 T (rd a b)).f1.f1, (rd_T55 T (rd a b)).f1.f2, (rd_T55 T (rd a b)).f1.f3⟩ : S53), (rd_T55 A (rd a (L))).f2⟩ : S55)) (k55_mkM _ _ _ (⟨(rd_T55 T (rd a b)).f0, (⟨(rd_T55 T (rd a b)).f1.f0, (rd_T55 T (rd a b)).f1.f1, (rd_T55 T (rd a b)).f1.f2, (rd_T55 T (rd a b)).f1.f3⟩ : S53), (rd_T55 A (rd a (L))).f2⟩ : S55) ) (fun _ hk => hk)).1
   rw [← e6.out] at b0
   have d5 := Z b0
   clear cm ck fc eg b0
   refine start_ (n := 16) (S := fun w' => w'.cell? ⟨I, 0, none⟩ = some (.int .i64 ai) ∧ w'.cell? ⟨I, 1, none⟩ = some (.int .i64 aj) ∧ w'.cell? ⟨I, 2, none⟩ = some (.slice (some ⟨u, 0, none⟩) c.length ac) ∧ w'.cell? ⟨I, 3, none⟩ = some (.int .i64 ak) ∧ w'.cell? ⟨I, 4, none⟩ = some (.bool al) ∧ w'.cell? ⟨I, 5, none⟩ = some (.bool am) ∧ w'.cell? ⟨J, 0, none⟩ = some (.int .i64 x) ∧ w'.cell? ⟨J, 1, none⟩ = some (.int .i64 y) ∧ w'.cell? ⟨J, 2, none⟩ = some (.slice (some ao) A.length ec) ∧ w'.cell? ⟨J, 3, none⟩ = some (.int .i64 l) ∧ w'.cell? ⟨J, 4, none⟩ = some (.bool false) ∧ w'.cell? ⟨J, 5, none⟩ = some (.bool z) ∧ w'.cell? (ar.add ((L)).toNat) = some (.int .i64 (rd a (L))) ∧ w'.cell? (ao.add (((rd a (L))).toNat * 6)) = some (.bool ((rd_T55 A (rd a (L))).f0)) ∧ w'.cell? ⟨(ao.add (((rd a (L))).toNat * 6)).block, (ao.add (((rd a (L))).toNat * 6)).off + 1, none⟩ = some (.bool ((rd_T55 A (rd a (L))).f1.f0)) ∧ w'.cell? ⟨(ao.add (((rd a (L))).toNat * 6)).block, (ao.add (((rd a (L))).toNat * 6)).off + 2, none⟩ = some (.bool ((rd_T55 A (rd a (L))).f1.f1)) ∧ w'.cell? ⟨(ao.add (((rd a (L))).toNat * 6)).block, (ao.add (((rd a (L))).toNat * 6)).off + 3, none⟩ = some (.int .i64 ((rd_T55 A (rd a (L))).f1.f2)) ∧ w'.cell? ⟨(ao.add (((rd a (L))).toNat * 6)).block, (ao.add (((rd a (L))).toNat * 6)).off + 4, none⟩ = some (.bool ((rd_T55 A (rd a (L))).f1.f3)) ∧ w'.cell? ⟨(ao.add (((rd a (L))).toNat * 6)).block, (ao.add (((rd a (L))).toNat * 6)).off + 5, none⟩ = some (.int .u8 ((rd_T55 A (rd a (L))).f2))) (ds := [15]) (bv 16 0) (by kernel_rfl) rfl rfl ⟨(blk_cell O.out 0).trans rfl, (blk_cell O.out 1).trans rfl, (blk_cell O.out 2).trans rfl, (blk_cell O.out 3).trans rfl, (blk_cell O.out 4).trans rfl, (blk_cell O.out 5).trans rfl, (blk_cell d.out 0).trans rfl, (blk_cell d.out 1).trans rfl, (blk_cell d.out 2).trans rfl, (blk_cell d.out 3).trans rfl, (blk_cell d.out 4).trans rfl, (blk_cell d.out 5).trans rfl, bo, bp, bq, br, bs, bt, bu⟩ (fun hHeld => ?_); refine with_tabW wipe_Do.tab16 wipe_Do.bits16 (fun HT_ HW_ => ?_)
   (replace ax := Z (blk_drew ax.out)); generalize bX.drew = jm at ax GD GC GA GB d q O HB d5 ep eq er es et eu bo bp bq br bs bt bu eE eF eG eH eI eJ hHeld ⊢
   refine pT_ HT_ 0 16 1 (some 66) ?_
   refine pT_ HT_ 2 16 5 (some 68) ?_
   refine pT_ HT_ 3 16 13 (some 69) ?_
   refine pT_ HT_ 5 16 45 (some 71) ?_
   refine pT_ HT_ 6 16 109 (some 72) ?_
   refine pT_ HT_ 7 16 237 (some 73) ?_
   refine pT_ HT_ 8 16 493 (some 74) ?_
   refine tT_ HT_ HW_ hHeld 1 16 495 (some 67) ?_
   refine tT_ HT_ HW_ hHeld 4 16 511 (some 70) ?_
   refine tT_ HT_ HW_ hHeld 9 16 1023 (some 75) ?_
   refine pT_ HT_ 10 16 2047 (some 76) ?_
   refine pT_ HT_ 11 16 4095 (some 77) ?_
   refine tT_ HT_ HW_ hHeld 12 16 8191 (some 78) ?_
   refine pT_ HT_ 13 16 16383 (some 79) ?_
   refine pT_ HT_ 14 16 32767 (some 80) ?_
   refine last_ (i := 15) (N := none) (bv 16 65535) rfl rfl (one_of HT_.out (by kernel_rfl)) (by decide) (fun K hK => ?_)
   refine skip_ (w1 := ?_) (by rfl) rfl ?_ ?_
   rotate_left
   ·go_simp
    rfl
   refine hK.out _ _ ?_
   clear hK K
   refine done_ (done_of HT_.out (by kernel_rfl)) ?_
   try go_wp2
   go_roundg k1
   case measure => have := bk.out; omega
   case rel => exact ⟨(L), (A), (e3), (.slice (some ao) A.length ec), (.slice (some ⟨u, 0, none⟩) c.length ac), (by first | rfl | (simp; done) | (simp only [← aS, i64_w]; rfl) | (simp only [← aS] <;> (first | rfl | simp)) | (simp [*]; done)), H', ⟨by have := bk.out; omega⟩, ⟨by (with_reducible repeat (first | apply Kd.Q_alloc | apply Kd.Q_drewN | apply Kd.Q_drew)); exact Kd.Q_mono (Kd.Q_far (p := ⟨u, ((rd a b) : Int).toNat * 6 + 5, none⟩) (Kd.Q_types GD.out ax.out (by decide)) im_ (.int .u8 ((rd_T55 A (rd a (L))).f2))) im_⟩, ⟨by (with_reducible repeat (first | apply Kd.Q_alloc | apply Kd.Q_drewN | apply Kd.Q_drew)); exact Kd.Q_mono (Kd.Q_far (p := ⟨u, ((rd a b) : Int).toNat * 6 + 5, none⟩) (Kd.Q_types GC.out ax.out (by decide)) im_ (.int .u8 ((rd_T55 A (rd a (L))).f2))) im_⟩, ⟨by (with_reducible repeat apply pV); exact Kd.V_mono (Kd.V_far (p := ⟨u, ((rd a b) : Int).toNat * 6 + 5, none⟩) (Kd.V_mono GA.out (fun k_ hk => (⟨hk, fun e_ => hk.2 (by rw [e_]; rfl)⟩ : _ ∧ k_ ≠ u))) im_ (.int .u8 ((rd_T55 A (rd a (L))).f2))) im_⟩, ⟨by (with_reducible repeat apply pR); exact d5.out⟩, ⟨by (with_reducible repeat apply pK); refine blk_far ?_ (by have h_ := Kd.R_ne GB.out d.out (by decide); intro e_; exact h_ (by rw [e_]; rfl)) _; (with_reducible repeat apply pK); exact d.out⟩, ⟨by (with_reducible repeat apply pK); refine blk_far ?_ (by have h_ := Kd.R_ne GB.out q.out (by decide); intro e_; exact h_ (by rw [e_]; rfl)) _; (with_reducible repeat apply pK); exact q.out⟩, ⟨by (with_reducible repeat apply pK); refine blk_far ?_ (by have h_ := Kd.R_ne GB.out O.out (by decide); intro e_; exact h_ (by rw [e_]; rfl)) _; (with_reducible repeat apply pK); exact O.out⟩, ⟨by repeat (first | (with_reducible first | exact HB.out | apply below_alloc | apply pw_below_drewN | apply below_drew1 | refine below_set ?_ aZ.out | refine below_set ?_ a2.out | refine below_set ?_ a3.out | refine below_set ?_ h7.out) | exact HB.out)⟩⟩
end Go.Proofs.YtjpedimndkibnaaGreatDoor.P
