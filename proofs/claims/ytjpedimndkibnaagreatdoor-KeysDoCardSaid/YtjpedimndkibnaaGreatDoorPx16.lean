/- pp.py and press2.py (wip/tools) wrote this text. -/
import Derived.Test.YtjpedimndkibnaaGreatDoorPx0
import Derived.Test.YtjpedimndkibnaaGreatDoorPxS
import Derived.Test.YtjpedimndkibnaaGreatDoorPxT
import Derived.Test.YtjpedimndkibnaaGreatDoorPx6
import Derived.Test.YtjpedimndkibnaaGreatDoorPx8
import Derived.Test.YtjpedimndkibnaaGreatDoorPx11
import Derived.Test.YtjpedimndkibnaaGreatDoorPx14
import Derived.Test.YtjpedimndkibnaaGreatDoorPx15
namespace Go.Proofs.YtjpedimndkibnaaGreatDoor.P
open Go.RowKit Go.Proofs.YtjpedimndkibnaaGreatDoorW.PrintWords Go.Proofs.YtjpedimndkibnaaGreatDoorW.PrintLast Go.Proofs.YtjpedimndkibnaaGreatDoorW.PrintMore
attribute [local go_sem] max2_int min2_int max_two min_two max_three min_three max_four min_four
attribute [local go_sem] Instr.field asAgg
set_option linter.unusedVariables false
set_option linter.unusedSimpArgs false
set_option maxHeartbeats 8000000
set_option maxRecDepth 100000

/-! ### keys_plain: function 38 -/
def keys_plain.j0 : Nat → Bool → Int → Int → List (S55) → Int → Bool → Bool → Int → Int → Option (Int × Int × (List (S55)) × Int × Bool × Bool × Option Er × (List (S206)))
 | 0, _, _, _, _, _, _, _, _, _ => none
 | k + 1, l, b, c, d, e, g, h, i, j => if l = true then ((keys_set.f k b c d e g h i).bind fun a => (some (a.1, a.2.1, a.2.2.1, a.2.2.2.1, a.2.2.2.2.1, a.2.2.2.2.2.1, a.2.2.2.2.2.2.1, a.2.2.2.2.2.2.2))) else (some (b, c, d, e, g, h, some (Er.num 1), ([] : List (S206))))
def keys_plain.f (k : Nat) (h i : Int) (n : List (S55)) (j : Int) (l m : Bool) (a o : Int) : Option (Int × Int × (List (S55)) × Int × Bool × Bool × Option Er × (List (S206))) := (move_Moves.f a).bind fun p => (if p = true then ((move_Do.f k h i n j l m a).bind fun b => (some (b.1, b.2.1, b.2.2.1, b.2.2.2.1, b.2.2.2.2.1, b.2.2.2.2.2.1, b.2.2.2.2.2.2.1, b.2.2.2.2.2.2.2))) else ((wipe_Wipes.f a).bind fun q => (if q = true then ((wipe_Do.f k h i n j l m a).bind fun c => (some (c.1, c.2.1, c.2.2.1, c.2.2.2.1, c.2.2.2.2.1, c.2.2.2.2.2.1, c.2.2.2.2.2.2.1, c.2.2.2.2.2.2.2))) else (if a = 11 then ((edit_Type.f k h i n j l m 30).bind fun d => (some (d.1, d.2.1, d.2.2.1, d.2.2.2.1, d.2.2.2.2.1, d.2.2.2.2.2.1, d.2.2.2.2.2.2.1, d.2.2.2.2.2.2.2))) else (if a = 1 then ((edit_Type.f k h i n j l m o).bind fun e => (some (e.1, e.2.1, e.2.2.1, e.2.2.2.1, e.2.2.2.2.1, e.2.2.2.2.2.1, e.2.2.2.2.2.2.1, e.2.2.2.2.2.2.2))) else (if a = 10 then ((keys_dup.f k h i n j l m).bind fun g => (some (g.1, g.2.1, g.2.2.1, g.2.2.2.1, g.2.2.2.2.1, g.2.2.2.2.2.1, g.2.2.2.2.2.2.1, g.2.2.2.2.2.2.2))) else (if a = 15 then (keys_plain.j0 k (a == 15) h i n j l m a o) else (keys_plain.j0 k (a == 16) h i n j l m a o))))))))
theorem keys_plain.mono_l : ∀ k, (∀ b c d e f g i j l, LeO (keys_plain.j0 k b c d e f g i j l) (keys_plain.j0 (k + 1) b c d e f g i j l))
 | 0 => fun _ _ _ _ _ _ _ _ _ r h => by simp [keys_plain.j0] at h
 | k + 1 => by
  have a := keys_plain.mono_l k
  ·intro b c d e f g i j l
   unfold keys_plain.j0
   repeat' first
   | (with_reducible exact a _ _ _ _ _ _ _ _ _)
   | (with_reducible exact edit_Type.mono _ _ _ _ _ _ _ _)
   | (with_reducible exact keys_dup.mono _ _ _ _ _ _ _)
   | (with_reducible exact keys_set.mono _ _ _ _ _ _ _ _)
   | (with_reducible exact move_Do.mono _ _ _ _ _ _ _ _)
   | (with_reducible exact wipe_Do.mono _ _ _ _ _ _ _ _)
   | (with_reducible exact LeO.refl _)
   | (with_reducible exact LeO.none _)
   | (with_reducible refine LeO.ite ?_ ?_)
   | (with_reducible refine LeO.bind ?_ (fun _ => ?_))
   | exact a _ _ _ _ _ _ _ _ _
   | exact edit_Type.mono _ _ _ _ _ _ _ _
   | exact keys_dup.mono _ _ _ _ _ _ _
   | exact keys_set.mono _ _ _ _ _ _ _ _
   | exact move_Do.mono _ _ _ _ _ _ _ _
   | exact wipe_Do.mono _ _ _ _ _ _ _ _
   | exact LeO.none _
   | refine LeO.ite ?_ ?_
   | refine LeO.bind ?_ (fun _ => ?_)
theorem keys_plain.mono : ∀ a0 a1 b c a4 d e g k, LeO (keys_plain.f k a0 a1 b c a4 d e g) (keys_plain.f (k + 1) a0 a1 b c a4 d e g) := by
 intro a0 a1 b c a4 d e g k
 have a := keys_plain.mono_l k
 unfold keys_plain.f
 repeat' first
   | (with_reducible exact a _ _ _ _ _ _ _ _ _)
   | (with_reducible exact edit_Type.mono _ _ _ _ _ _ _ _)
   | (with_reducible exact keys_dup.mono _ _ _ _ _ _ _)
   | (with_reducible exact keys_set.mono _ _ _ _ _ _ _ _)
   | (with_reducible exact move_Do.mono _ _ _ _ _ _ _ _)
   | (with_reducible exact wipe_Do.mono _ _ _ _ _ _ _ _)
   | (with_reducible exact LeO.refl _)
   | (with_reducible exact LeO.none _)
   | (with_reducible refine LeO.ite ?_ ?_)
   | (with_reducible refine LeO.bind ?_ (fun _ => ?_))
   | exact a _ _ _ _ _ _ _ _ _
   | exact edit_Type.mono _ _ _ _ _ _ _ _
   | exact keys_dup.mono _ _ _ _ _ _ _
   | exact keys_set.mono _ _ _ _ _ _ _ _
   | exact move_Do.mono _ _ _ _ _ _ _ _
   | exact wipe_Do.mono _ _ _ _ _ _ _ _
   | exact LeO.none _
   | refine LeO.ite ?_ ?_
   | refine LeO.bind ?_ (fun _ => ?_)
theorem keys_plain.calls (k : Nat) (u x : Int) (F : Nat → Prop) (J : Option Addr) (K : Nat) (j : List (S55)) (y : Int) (z A : Bool) (g L r1 r2 : Int) (r3 : List (S55)) (r4 : Int) (r5 r6 : Bool) (r7 : Option Er) (r8 : List (S206)) (w : World) (eN : Kd.V k55 55 w w.heap.size (fun k_ => F k_) (.slice J j.length K) j) (h : keys_plain.f k u x j y z A g L = some (r1, r2, r3, r4, r5, r6, r7, r8)) :
  Calls Tryz.prog 38 #[.agg #[.int .i64 u, .int .i64 x, .slice J j.length K, .int .i64 y, .bool z, .bool A], .agg #[.int .i64 g, .int .u8 L]] w fun e w' => ∃ eQ eR : Value, e = .returned (.tuple #[.agg #[.int .i64 r1, .int .i64 r2, eQ, .int .i64 r4, .bool r5, .bool r6], errW eR r7]) ∧ Kd.V k55 55 w' w.heap.size (fun k_ => (F k_ ∨ w.heap.size ≤ k_)) eQ r3 ∧ Kd.V k206 206 w' w.heap.size (fun k_ => (F k_ ∨ w.heap.size ≤ k_)) eR r8 ∧ Below w.heap.size w w' := by
 have gR := Tryz.underlying24
 have gT := Tryz.underlying45
 have gS := Tryz.underlying34
 have gU := Tryz.underlying69
 have d := Z (show Kd.V k55 55 w w.heap.size (fun k_ => (F k_ ∨ w.heap.size ≤ k_)) (.slice J j.length K) j from Kd.V_mono eN (fun k_ hk => .inl hk))
 have HB := Z (Below.refl w.heap.size w)
 unfold keys_plain.f at h
 have H := h
 clear h
 replace H := bn_ H
 obtain ⟨bh, A3, H⟩ := H
 by_cases c4 : bh = true
 ·subst c4
  rw [if_pos rfl] at H
  replace H := bn_ H
  obtain ⟨⟨aH, aI, aJ, aK, aL, aM, ev, ew⟩, A5, H⟩ := H
  try dsimp only at H
  obtain ⟨rfl, rfl, rfl, rfl, rfl, rfl, rfl, rfl⟩ := ij8_ H
  go_enter Tryz.func38, Tryz.ntmps38
  go_wp2_with (first | ((with_reducible refine gD_ 2 rfl ?_); refine bx_ 2 24 #[.int .i64 u, .int .i64 x, .slice J j.length K, .int .i64 y, .bool z, .bool A] ?_; intro s hg w6 hbox hb; replace d := ve' d hg hb; have b := Z hbox; have az := ln' w hg; replace HB := bs_ hb; clear hb hbox hg) | ((with_reducible refine gD_ 3 rfl ?_); refine bx_ 3 45 #[.int .i64 g, .int .u8 L] ?_; intro r hg w7 hbox hb; replace d := ve' d hg hb; have c := Z hbox; have aA := ln' w hg; replace HB := bs_ hb; have M := nl' b hg; replace b := kb' b hb; clear hb hbox hg) | ((with_reducible refine gD_ 4 rfl ?_); refine bx_ 4 24 zS_ ?_; intro a hg w8 hbox hb; replace d := ve' d hg hb; have i := Z hbox; have aB := ln' w hg; replace HB := bs_ hb; have S := nl' b hg; replace b := kb' b hb; have R := nl' c hg; replace c := kb' c hb; clear hb hbox hg; have gP := ns_ M; have fV := ns_ R; have bQ := cells2 c.out) | ((with_reducible refine gF_ 69 rfl ?_); refine gd_ (some 9) Tryz.func69 (move_Moves.calls g true _ A3.out) ?_; rintro e w' ⟨rfl, ⟨nd, rfl⟩⟩; refine ⟨_, rfl, ?_⟩; (try (rw [drewN_self w8]; generalize hq_ : World.drewN w8 _ = w8; replace d := Z (qV hq_ d.out); replace b := Z (qM hq_ b.out); replace c := Z (qM hq_ c.out); replace i := Z (qM hq_ i.out); replace HB := Z (qB hq_ HB.out); clear hq_)); (try have W := cells2 c.out); have fW := ns_ S; have bS := cells6 b.out) | ((with_reducible refine gF_ 70 rfl ?_); refine gd_ (some 13) Tryz.func70 (move_Do.calls k u x (fun k_ => ((((F k_ ∨ w.heap.size ≤ k_) ∧ k_ ≠ s) ∧ k_ ≠ r) ∧ k_ ≠ a)) _ _ j y z A g aH aI aJ aK aL aM ev ew _ d.out A5.out) ?_; rintro e hB ⟨gV, gW, rfl, ac, ad, hb⟩; refine ⟨_, rfl, ?_⟩; replace d := vb' d hb; have bB := Z (Kd.V_lower (Kd.V_mono (ok' := fun k_ => (F k_ ∨ w.heap.size ≤ k_) ∧ k_ ≠ s ∧ k_ ≠ r ∧ k_ ≠ a) ac (fun k_ hk_ => hk_.elim (fun hs_ => ⟨hs_.1.1.1, hs_.1.1.2, hs_.1.2, hs_.2⟩) (fun hn_ => ⟨(ir_ hn_), (fb b.out k_ hn_), (fb c.out k_ hn_), (fb i.out k_ hn_)⟩))) (below_size bl_)); have eH := Z (Kd.V_lower (Kd.V_mono (ok' := fun k_ => (F k_ ∨ w.heap.size ≤ k_) ∧ k_ ≠ s ∧ k_ ≠ r ∧ k_ ≠ a) ad (fun k_ hk_ => hk_.elim (fun hs_ => ⟨hs_.1.1.1, hs_.1.1.2, hs_.1.2, hs_.2⟩) (fun hn_ => ⟨(ir_ hn_), (fb b.out k_ hn_), (fb c.out k_ hn_), (fb i.out k_ hn_)⟩))) (below_size bl_)); replace b := kb' b hb; replace c := kb' c hb; replace i := kb' i hb; replace HB := bs_ hb; (try clear hb); (try clear hk); (try clear ac); (try clear ad); (try simp only [errW_none, errW_some]); have bY := cells6 i.out; obtain ⟨bn, bu, eS⟩ := Kd.V_slice bB.out; subst eS))
  refine rc2_ (put6 i.out) Tryz.underlying24 ?_
  exact ⟨_, _, er_, by (with_reducible repeat apply pV); exact Kd.V_mono (f6V a (Kd.V_mono bB.out (fun k_ hk => (⟨hk, hk.2.2.2⟩ : _ ∧ k_ ≠ a))) im_) im_, by (with_reducible repeat apply pV); exact Kd.V_mono (f6V a (Kd.V_mono eH.out (fun k_ hk => (⟨hk, hk.2.2.2⟩ : _ ∧ k_ ≠ a))) im_) im_, bl_⟩
 replace c4 := Bool.eq_false_iff.mpr c4
 subst c4
 rw [iF_] at H
 replace H := bn_ H
 obtain ⟨au, bi, H⟩ := H
 by_cases bj : au = true
 ·subst bj
  rw [if_pos rfl] at H
  replace H := bn_ H
  obtain ⟨⟨aN, aO, aP, aQ, aR, aS, ex, ey⟩, fP, H⟩ := H
  try dsimp only at H
  obtain ⟨rfl, rfl, rfl, rfl, rfl, rfl, rfl, rfl⟩ := ij8_ H
  go_enter Tryz.func38, Tryz.ntmps38
  go_wp2_with (first | ((with_reducible refine gD_ 2 rfl ?_); refine bx_ 2 24 #[.int .i64 u, .int .i64 x, .slice J j.length K, .int .i64 y, .bool z, .bool A] ?_; intro s hg hC hbox hb; replace d := ve' d hg hb; have b := Z hbox; have az := ln' w hg; replace HB := bs_ hb; clear hb hbox hg) | ((with_reducible refine gD_ 3 rfl ?_); refine bx_ 3 45 #[.int .i64 g, .int .u8 L] ?_; intro r hg hD hbox hb; replace d := ve' d hg hb; have c := Z hbox; have aA := ln' w hg; replace HB := bs_ hb; have M := nl' b hg; replace b := kb' b hb; clear hb hbox hg) | ((with_reducible refine gD_ 4 rfl ?_); refine bx_ 4 24 zS_ ?_; intro a hg ah hbox hb; replace d := ve' d hg hb; have i := Z hbox; have aB := ln' w hg; replace HB := bs_ hb; have S := nl' b hg; replace b := kb' b hb; have R := nl' c hg; replace c := kb' c hb; clear hb hbox hg; have fX := ns_ M; have fY := ns_ R; have b4 := cells2 c.out) | ((with_reducible refine gF_ 69 rfl ?_); refine gd_ (some 9) Tryz.func69 (move_Moves.calls g false _ A3.out) ?_; rintro e w' ⟨rfl, ⟨nd, rfl⟩⟩; refine ⟨_, rfl, ?_⟩; (try (rw [drewN_self ah]; generalize hq_ : World.drewN ah _ = ah; replace d := Z (qV hq_ d.out); replace b := Z (qM hq_ b.out); replace c := Z (qM hq_ c.out); replace i := Z (qM hq_ i.out); replace HB := Z (qB hq_ HB.out); clear hq_)); (try have W := cells2 c.out)) | ((with_reducible refine gF_ 71 rfl ?_); refine gd_ (some 19) Tryz.func71 (wipe_Wipes.calls g true _ bi.out) ?_; rintro e w' ⟨rfl, ⟨nd, rfl⟩⟩; refine ⟨_, rfl, ?_⟩; (try (rw [drewN_self ah]; generalize hq_ : World.drewN ah _ = ah; replace d := Z (qV hq_ d.out); replace b := Z (qM hq_ b.out); replace c := Z (qM hq_ c.out); replace i := Z (qM hq_ i.out); replace HB := Z (qB hq_ HB.out); clear hq_)); (try have W := cells2 c.out); have fZ := ns_ S; have b6 := cells6 b.out) | ((with_reducible refine gF_ 72 rfl ?_); refine gd_ (some 23) Tryz.func72 (wipe_Do.calls k u x (fun k_ => ((((F k_ ∨ w.heap.size ≤ k_) ∧ k_ ≠ s) ∧ k_ ≠ r) ∧ k_ ≠ a)) _ _ j y z A g aN aO aP aQ aR aS ex ey _ d.out fP.out) ?_; rintro e hE ⟨gX, gY, rfl, ac, ad, hb⟩; refine ⟨_, rfl, ?_⟩; replace d := vb' d hb; have bC := Z (Kd.V_lower (Kd.V_mono (ok' := fun k_ => (F k_ ∨ w.heap.size ≤ k_) ∧ k_ ≠ s ∧ k_ ≠ r ∧ k_ ≠ a) ac (fun k_ hk_ => hk_.elim (fun hs_ => ⟨hs_.1.1.1, hs_.1.1.2, hs_.1.2, hs_.2⟩) (fun hn_ => ⟨(ir_ hn_), (fb b.out k_ hn_), (fb c.out k_ hn_), (fb i.out k_ hn_)⟩))) (below_size bl_)); have eI := Z (Kd.V_lower (Kd.V_mono (ok' := fun k_ => (F k_ ∨ w.heap.size ≤ k_) ∧ k_ ≠ s ∧ k_ ≠ r ∧ k_ ≠ a) ad (fun k_ hk_ => hk_.elim (fun hs_ => ⟨hs_.1.1.1, hs_.1.1.2, hs_.1.2, hs_.2⟩) (fun hn_ => ⟨(ir_ hn_), (fb b.out k_ hn_), (fb c.out k_ hn_), (fb i.out k_ hn_)⟩))) (below_size bl_)); replace b := kb' b hb; replace c := kb' c hb; replace i := kb' i hb; replace HB := bs_ hb; (try clear hb); (try clear hk); (try clear ac); (try clear ad); (try simp only [errW_none, errW_some]); have cc := cells6 i.out; obtain ⟨bo, bv, eT⟩ := Kd.V_slice bC.out; subst eT))
  refine rc2_ (put6 i.out) Tryz.underlying24 ?_
  exact ⟨_, _, er_, by (with_reducible repeat apply pV); exact Kd.V_mono (f6V a (Kd.V_mono bC.out (fun k_ hk => (⟨hk, hk.2.2.2⟩ : _ ∧ k_ ≠ a))) im_) im_, by (with_reducible repeat apply pV); exact Kd.V_mono (f6V a (Kd.V_mono eI.out (fun k_ hk => (⟨hk, hk.2.2.2⟩ : _ ∧ k_ ≠ a))) im_) im_, bl_⟩
 replace bj := Bool.eq_false_iff.mpr bj
 subst bj
 rw [iF_] at H
 by_cases aD : g = 11
 ·rw [if_pos aD] at H
  obtain ⟨bH, bI⟩ := eT_ aD
  clear aD
  replace H := bn_ H
  obtain ⟨⟨aT, aU, aV, aW, aX, aY, ez, eA⟩, fQ, H⟩ := H
  try dsimp only at H
  obtain ⟨rfl, rfl, rfl, rfl, rfl, rfl, rfl, rfl⟩ := ij8_ H
  go_enter Tryz.func38, Tryz.ntmps38
  go_wp2_with (first | ((with_reducible refine gD_ 2 rfl ?_); refine bx_ 2 24 #[.int .i64 u, .int .i64 x, .slice J j.length K, .int .i64 y, .bool z, .bool A] ?_; intro s hg hF hbox hb; replace d := ve' d hg hb; have b := Z hbox; have az := ln' w hg; replace HB := bs_ hb; clear hb hbox hg) | ((with_reducible refine gD_ 3 rfl ?_); refine bx_ 3 45 #[.int .i64 g, .int .u8 L] ?_; intro r hg hG hbox hb; replace d := ve' d hg hb; have c := Z hbox; have aA := ln' w hg; replace HB := bs_ hb; have M := nl' b hg; replace b := kb' b hb; clear hb hbox hg) | ((with_reducible refine gD_ 4 rfl ?_); refine bx_ 4 24 zS_ ?_; intro a hg ag hbox hb; replace d := ve' d hg hb; have i := Z hbox; have aB := ln' w hg; replace HB := bs_ hb; have S := nl' b hg; replace b := kb' b hb; have R := nl' c hg; replace c := kb' c hb; clear hb hbox hg; have ga := ns_ M; have gb := ns_ R; have ci := cells2 c.out) | ((with_reducible refine gF_ 69 rfl ?_); refine gd_ (some 9) Tryz.func69 (move_Moves.calls g false _ A3.out) ?_; rintro e w' ⟨rfl, ⟨nd, rfl⟩⟩; refine ⟨_, rfl, ?_⟩; (try (rw [drewN_self ag]; generalize hq_ : World.drewN ag _ = ag; replace d := Z (qV hq_ d.out); replace b := Z (qM hq_ b.out); replace c := Z (qM hq_ c.out); replace i := Z (qM hq_ i.out); replace HB := Z (qB hq_ HB.out); clear hq_)); (try have W := cells2 c.out)) | ((with_reducible refine gF_ 71 rfl ?_); refine gd_ (some 19) Tryz.func71 (wipe_Wipes.calls g false _ bi.out) ?_; rintro e w' ⟨rfl, ⟨nd, rfl⟩⟩; refine ⟨_, rfl, ?_⟩; (try (rw [drewN_self ag]; generalize hq_ : World.drewN ag _ = ag; replace d := Z (qV hq_ d.out); replace b := Z (qM hq_ b.out); replace c := Z (qM hq_ c.out); replace i := Z (qM hq_ i.out); replace HB := Z (qB hq_ HB.out); clear hq_)); (try have W := cells2 c.out)) | ((with_reducible refine gate_store (t := 5) (p := 37) rfl ?_); refine sx_ 5 37 (ag.setCell ⟨r, 1, none⟩ (.int .u8 30)) ?_; intro bl hw; replace d : Aside0 (Kd.V k55 55 bl w.heap.size (fun k_ => (F k_ ∨ w.heap.size ≤ k_) ∧ k_ ≠ s ∧ k_ ≠ r ∧ k_ ≠ a) (.slice J j.length K) j) := ⟨(by rw [hw]; exact (by (with_reducible repeat apply pV); exact V_off d.out (fun k_ hk => hk.1.2) off2_ (fun _ hk => ⟨hk.1.1.1, ⟨hk.1.1.2, ⟨hk.1.2, hk.2⟩⟩⟩)))⟩; replace b := Z (sM hw (blk_off b.out M.out off2_)); replace c : Aside0 (bl.heap[r]? = some (.cells #[.int .i64 g, .int .u8 30] 45 (0, 0))) := ⟨(by rw [hw]; exact (by (with_reducible repeat apply pK); refine blk_put (cs := #[.int .i64 g, .int .u8 L]) ?_ 1 _ rfl; (with_reducible repeat apply pK); exact c.out))⟩; replace i := Z (sM hw (blk_off i.out R.out.symm off2_)); replace HB : Aside0 (Below w.heap.size w bl) := ⟨by rw [hw]; exact bl_⟩; clear hw; have gc := ns_ S; have ck := cells6 b.out; have cq := cells2 c.out) | ((with_reducible refine gF_ 73 rfl ?_); refine gd_ (some 41) Tryz.func73 (edit_Type.calls k u x (fun k_ => ((F k_ ∨ w.heap.size ≤ k_) ∧ (k_ ≠ s ∧ (k_ ≠ r ∧ k_ ≠ a)))) _ _ j y z A 30 aT aU aV aW aX aY ez eA _ d.out fQ.out) ?_; rintro e hH ⟨gZ, g0, rfl, ac, ad, hb⟩; refine ⟨_, rfl, ?_⟩; replace d := vb' d hb; have bD := Z (Kd.V_lower (Kd.V_mono (ok' := fun k_ => (F k_ ∨ w.heap.size ≤ k_) ∧ k_ ≠ s ∧ k_ ≠ r ∧ k_ ≠ a) ac (fun k_ hk_ => hk_.elim (fun hs_ => ⟨hs_.1, hs_.2.1, hs_.2.2.1, hs_.2.2.2⟩) (fun hn_ => ⟨(ir_ hn_), (fb b.out k_ hn_), (fb c.out k_ hn_), (fb i.out k_ hn_)⟩))) (below_size bl_)); have eJ := Z (Kd.V_lower (Kd.V_mono (ok' := fun k_ => (F k_ ∨ w.heap.size ≤ k_) ∧ k_ ≠ s ∧ k_ ≠ r ∧ k_ ≠ a) ad (fun k_ hk_ => hk_.elim (fun hs_ => ⟨hs_.1, hs_.2.1, hs_.2.2.1, hs_.2.2.2⟩) (fun hn_ => ⟨(ir_ hn_), (fb b.out k_ hn_), (fb c.out k_ hn_), (fb i.out k_ hn_)⟩))) (below_size bl_)); replace b := kb' b hb; replace c := kb' c hb; replace i := kb' i hb; replace HB := bs_ hb; (try clear hb); (try clear hk); (try clear ac); (try clear ad); (try simp only [errW_none, errW_some]); have ct := cells6 i.out; obtain ⟨bp, bw, eU⟩ := Kd.V_slice bD.out; subst eU))
  refine rc2_ (put6 i.out) Tryz.underlying24 ?_
  exact ⟨_, _, er_, by (with_reducible repeat apply pV); exact Kd.V_mono (f6V a (Kd.V_mono bD.out (fun k_ hk => (⟨hk, hk.2.2.2⟩ : _ ∧ k_ ≠ a))) im_) im_, by (with_reducible repeat apply pV); exact Kd.V_mono (f6V a (Kd.V_mono eJ.out (fun k_ hk => (⟨hk, hk.2.2.2⟩ : _ ∧ k_ ≠ a))) im_) im_, bl_⟩
 rw [if_neg aD] at H
 obtain ⟨bH, bI⟩ := eF_ aD
 by_cases aE : g = 1
 ·rw [if_pos aE] at H
  obtain ⟨bJ, bK⟩ := eT_ aE
  clear aE
  replace H := bn_ H
  obtain ⟨⟨aZ, a0, a1, a2, a3, a4, eB, eC⟩, fR, H⟩ := H
  try dsimp only at H
  obtain ⟨rfl, rfl, rfl, rfl, rfl, rfl, rfl, rfl⟩ := ij8_ H
  go_enter Tryz.func38, Tryz.ntmps38
  go_wp2_with (first | ((with_reducible refine gD_ 2 rfl ?_); refine bx_ 2 24 #[.int .i64 u, .int .i64 x, .slice J j.length K, .int .i64 y, .bool z, .bool A] ?_; intro s hg hI hbox hb; replace d := ve' d hg hb; have b := Z hbox; have az := ln' w hg; replace HB := bs_ hb; clear hb hbox hg) | ((with_reducible refine gD_ 3 rfl ?_); refine bx_ 3 45 #[.int .i64 g, .int .u8 L] ?_; intro r hg hJ hbox hb; replace d := ve' d hg hb; have c := Z hbox; have aA := ln' w hg; replace HB := bs_ hb; have M := nl' b hg; replace b := kb' b hb; clear hb hbox hg) | ((with_reducible refine gD_ 4 rfl ?_); refine bx_ 4 24 zS_ ?_; intro a hg ai hbox hb; replace d := ve' d hg hb; have i := Z hbox; have aB := ln' w hg; replace HB := bs_ hb; have S := nl' b hg; replace b := kb' b hb; have R := nl' c hg; replace c := kb' c hb; clear hb hbox hg; have gd := ns_ M; have ge := ns_ R; have cz := cells2 c.out) | ((with_reducible refine gF_ 69 rfl ?_); refine gd_ (some 9) Tryz.func69 (move_Moves.calls g false _ A3.out) ?_; rintro e w' ⟨rfl, ⟨nd, rfl⟩⟩; refine ⟨_, rfl, ?_⟩; (try (rw [drewN_self ai]; generalize hq_ : World.drewN ai _ = ai; replace d := Z (qV hq_ d.out); replace b := Z (qM hq_ b.out); replace c := Z (qM hq_ c.out); replace i := Z (qM hq_ i.out); replace HB := Z (qB hq_ HB.out); clear hq_)); (try have W := cells2 c.out)) | ((with_reducible refine gF_ 71 rfl ?_); refine gd_ (some 19) Tryz.func71 (wipe_Wipes.calls g false _ bi.out) ?_; rintro e w' ⟨rfl, ⟨nd, rfl⟩⟩; refine ⟨_, rfl, ?_⟩; (try (rw [drewN_self ai]; generalize hq_ : World.drewN ai _ = ai; replace d := Z (qV hq_ d.out); replace b := Z (qM hq_ b.out); replace c := Z (qM hq_ c.out); replace i := Z (qM hq_ i.out); replace HB := Z (qB hq_ HB.out); clear hq_)); (try have W := cells2 c.out); have gf := ns_ S; have cB := cells6 b.out) | ((with_reducible refine gF_ 73 rfl ?_); refine gd_ (some 41) Tryz.func73 (edit_Type.calls k u x (fun k_ => ((((F k_ ∨ w.heap.size ≤ k_) ∧ k_ ≠ s) ∧ k_ ≠ r) ∧ k_ ≠ a)) _ _ j y z A L aZ a0 a1 a2 a3 a4 eB eC _ d.out fR.out) ?_; rintro e hK ⟨g1, g2, rfl, ac, ad, hb⟩; refine ⟨_, rfl, ?_⟩; replace d := vb' d hb; have bE := Z (Kd.V_lower (Kd.V_mono (ok' := fun k_ => (F k_ ∨ w.heap.size ≤ k_) ∧ k_ ≠ s ∧ k_ ≠ r ∧ k_ ≠ a) ac (fun k_ hk_ => hk_.elim (fun hs_ => ⟨hs_.1.1.1, hs_.1.1.2, hs_.1.2, hs_.2⟩) (fun hn_ => ⟨(ir_ hn_), (fb b.out k_ hn_), (fb c.out k_ hn_), (fb i.out k_ hn_)⟩))) (below_size bl_)); have eK := Z (Kd.V_lower (Kd.V_mono (ok' := fun k_ => (F k_ ∨ w.heap.size ≤ k_) ∧ k_ ≠ s ∧ k_ ≠ r ∧ k_ ≠ a) ad (fun k_ hk_ => hk_.elim (fun hs_ => ⟨hs_.1.1.1, hs_.1.1.2, hs_.1.2, hs_.2⟩) (fun hn_ => ⟨(ir_ hn_), (fb b.out k_ hn_), (fb c.out k_ hn_), (fb i.out k_ hn_)⟩))) (below_size bl_)); replace b := kb' b hb; replace c := kb' c hb; replace i := kb' i hb; replace HB := bs_ hb; (try clear hb); (try clear hk); (try clear ac); (try clear ad); (try simp only [errW_none, errW_some]); have cH := cells6 i.out; obtain ⟨bq, bx, eV⟩ := Kd.V_slice bE.out; subst eV))
  refine rc2_ (put6 i.out) Tryz.underlying24 ?_
  exact ⟨_, _, er_, by (with_reducible repeat apply pV); exact Kd.V_mono (f6V a (Kd.V_mono bE.out (fun k_ hk => (⟨hk, hk.2.2.2⟩ : _ ∧ k_ ≠ a))) im_) im_, by (with_reducible repeat apply pV); exact Kd.V_mono (f6V a (Kd.V_mono eK.out (fun k_ hk => (⟨hk, hk.2.2.2⟩ : _ ∧ k_ ≠ a))) im_) im_, bl_⟩
 rw [if_neg aE] at H
 obtain ⟨bJ, bK⟩ := eF_ aE
 by_cases aF : g = 10
 ·rw [if_pos aF] at H
  obtain ⟨bL, bM⟩ := eT_ aF
  clear aF
  replace H := bn_ H
  obtain ⟨⟨a5, a6, a7, a8, a9, ba, eD, eE⟩, fS, H⟩ := H
  try dsimp only at H
  obtain ⟨rfl, rfl, rfl, rfl, rfl, rfl, rfl, rfl⟩ := ij8_ H
  go_enter Tryz.func38, Tryz.ntmps38
  go_wp2_with (first | ((with_reducible refine gD_ 2 rfl ?_); refine bx_ 2 24 #[.int .i64 u, .int .i64 x, .slice J j.length K, .int .i64 y, .bool z, .bool A] ?_; intro s hg hL hbox hb; replace d := ve' d hg hb; have b := Z hbox; have az := ln' w hg; replace HB := bs_ hb; clear hb hbox hg) | ((with_reducible refine gD_ 3 rfl ?_); refine bx_ 3 45 #[.int .i64 g, .int .u8 L] ?_; intro r hg hM hbox hb; replace d := ve' d hg hb; have c := Z hbox; have aA := ln' w hg; replace HB := bs_ hb; have M := nl' b hg; replace b := kb' b hb; clear hb hbox hg) | ((with_reducible refine gD_ 4 rfl ?_); refine bx_ 4 24 zS_ ?_; intro a hg aj hbox hb; replace d := ve' d hg hb; have i := Z hbox; have aB := ln' w hg; replace HB := bs_ hb; have S := nl' b hg; replace b := kb' b hb; have R := nl' c hg; replace c := kb' c hb; clear hb hbox hg; have gg := ns_ M; have gh := ns_ R; have cN := cells2 c.out) | ((with_reducible refine gF_ 69 rfl ?_); refine gd_ (some 9) Tryz.func69 (move_Moves.calls g false _ A3.out) ?_; rintro e w' ⟨rfl, ⟨nd, rfl⟩⟩; refine ⟨_, rfl, ?_⟩; (try (rw [drewN_self aj]; generalize hq_ : World.drewN aj _ = aj; replace d := Z (qV hq_ d.out); replace b := Z (qM hq_ b.out); replace c := Z (qM hq_ c.out); replace i := Z (qM hq_ i.out); replace HB := Z (qB hq_ HB.out); clear hq_)); (try have W := cells2 c.out)) | ((with_reducible refine gF_ 71 rfl ?_); refine gd_ (some 19) Tryz.func71 (wipe_Wipes.calls g false _ bi.out) ?_; rintro e w' ⟨rfl, ⟨nd, rfl⟩⟩; refine ⟨_, rfl, ?_⟩; (try (rw [drewN_self aj]; generalize hq_ : World.drewN aj _ = aj; replace d := Z (qV hq_ d.out); replace b := Z (qM hq_ b.out); replace c := Z (qM hq_ c.out); replace i := Z (qM hq_ i.out); replace HB := Z (qB hq_ HB.out); clear hq_)); (try have W := cells2 c.out); have gi := ns_ S; have cP := cells6 b.out) | ((with_reducible refine gF_ 74 rfl ?_); refine gd_ (some 45) Tryz.func74 (keys_dup.calls k u x (fun k_ => ((((F k_ ∨ w.heap.size ≤ k_) ∧ k_ ≠ s) ∧ k_ ≠ r) ∧ k_ ≠ a)) _ _ j y z A a5 a6 a7 a8 a9 ba eD eE _ d.out fS.out) ?_; rintro e hN ⟨g3, g4, rfl, ac, ad, hb⟩; refine ⟨_, rfl, ?_⟩; replace d := vb' d hb; have bF := Z (Kd.V_lower (Kd.V_mono (ok' := fun k_ => (F k_ ∨ w.heap.size ≤ k_) ∧ k_ ≠ s ∧ k_ ≠ r ∧ k_ ≠ a) ac (fun k_ hk_ => hk_.elim (fun hs_ => ⟨hs_.1.1.1, hs_.1.1.2, hs_.1.2, hs_.2⟩) (fun hn_ => ⟨(ir_ hn_), (fb b.out k_ hn_), (fb c.out k_ hn_), (fb i.out k_ hn_)⟩))) (below_size bl_)); have eL := Z (Kd.V_lower (Kd.V_mono (ok' := fun k_ => (F k_ ∨ w.heap.size ≤ k_) ∧ k_ ≠ s ∧ k_ ≠ r ∧ k_ ≠ a) ad (fun k_ hk_ => hk_.elim (fun hs_ => ⟨hs_.1.1.1, hs_.1.1.2, hs_.1.2, hs_.2⟩) (fun hn_ => ⟨(ir_ hn_), (fb b.out k_ hn_), (fb c.out k_ hn_), (fb i.out k_ hn_)⟩))) (below_size bl_)); replace b := kb' b hb; replace c := kb' c hb; replace i := kb' i hb; replace HB := bs_ hb; (try clear hb); (try clear hk); (try clear ac); (try clear ad); (try simp only [errW_none, errW_some]); have cV := cells6 i.out; obtain ⟨br, bz, eW⟩ := Kd.V_slice bF.out; subst eW))
  refine rc2_ (put6 i.out) Tryz.underlying24 ?_
  exact ⟨_, _, er_, by (with_reducible repeat apply pV); exact Kd.V_mono (f6V a (Kd.V_mono bF.out (fun k_ hk => (⟨hk, hk.2.2.2⟩ : _ ∧ k_ ≠ a))) im_) im_, by (with_reducible repeat apply pV); exact Kd.V_mono (f6V a (Kd.V_mono eL.out (fun k_ hk => (⟨hk, hk.2.2.2⟩ : _ ∧ k_ ≠ a))) im_) im_, bl_⟩
 rw [if_neg aF] at H
 obtain ⟨bL, bM⟩ := eF_ aF
 have bt := Z H
 clear H
 go_enter Tryz.func38, Tryz.ntmps38
 go_upto_if 34 with (first | ((with_reducible refine gD_ 2 rfl ?_); refine bx_ 2 24 #[.int .i64 u, .int .i64 x, .slice J j.length K, .int .i64 y, .bool z, .bool A] ?_; intro s hg hO hbox hb; replace d := ve' d hg hb; have b := Z hbox; have az := ln' w hg; replace HB := bs_ hb; clear hb hbox hg) | ((with_reducible refine gD_ 3 rfl ?_); refine bx_ 3 45 #[.int .i64 g, .int .u8 L] ?_; intro r hg hP hbox hb; replace d := ve' d hg hb; have c := Z hbox; have aA := ln' w hg; replace HB := bs_ hb; have M := nl' b hg; replace b := kb' b hb; clear hb hbox hg) | ((with_reducible refine gD_ 4 rfl ?_); refine bx_ 4 24 zS_ ?_; intro a hg hQ hbox hb; replace d := ve' d hg hb; have i := Z hbox; have aB := ln' w hg; replace HB := bs_ hb; have S := nl' b hg; replace b := kb' b hb; have R := nl' c hg; replace c := kb' c hb; clear hb hbox hg; have gj := ns_ M; have gk := ns_ R; have c8 := cells2 c.out) | ((with_reducible refine gF_ 69 rfl ?_); refine gd_ (some 9) Tryz.func69 (move_Moves.calls g false _ A3.out) ?_; rintro e w' ⟨rfl, ⟨nd, rfl⟩⟩; refine ⟨_, rfl, ?_⟩) | ((with_reducible refine gF_ 71 rfl ?_); refine gd_ (some 19) Tryz.func71 (wipe_Wipes.calls g false _ bi.out) ?_; rintro e w' ⟨rfl, ⟨nd, rfl⟩⟩; refine ⟨_, rfl, ?_⟩))
 (try simp only [Act.put, sA, sB, sC])
 go_cut [34] (fun fU wc => ∃ (kq : Nat) (aC : Bool), fU = .bool aC ∧ Aside0 (keys_plain.j0 kq aC u x j y z A g L = some (r1, r2, r3, r4, r5, r6, r7, r8)) ∧ Aside0 (kq ≤ k) ∧ Aside0 (Kd.V k55 55 wc w.heap.size (fun k_ => (F k_ ∨ w.heap.size ≤ k_) ∧ k_ ≠ s ∧ k_ ≠ r ∧ k_ ≠ a) (.slice J j.length K) j) ∧ Aside0 (wc.heap[s]? = some (.cells #[.int .i64 u, .int .i64 x, (.slice J j.length K), .int .i64 y, .bool z, .bool A] 24 (0, 0))) ∧ Aside0 (wc.heap[r]? = some (.cells #[.int .i64 g, .int .u8 L] 45 (0, 0))) ∧ Aside0 (wc.heap[a]? = some (.cells zS_ 24 (0, 0))) ∧ Aside0 (Below w.heap.size w wc))
 case first =>
  have H := bt.out
  clear bt
  by_cases aG : g = 15
  ·rw [if_pos aG] at H
   obtain ⟨av, bN⟩ := eT_ aG
   clear aG
   (first | rw [av] | (simp only [i64_w, i32_w]; rw [av]) | skip)
   have H' := Z H
   clear H
   go_wp2
   go_meet
   case rel => exact ⟨_, ((g == 15)), (dn_), H', ⟨by first | omega | exact Nat.le_refl _⟩, ⟨by (with_reducible repeat apply pV); exact Kd.V_mono d.out im_⟩, ⟨vK b.out⟩, ⟨vK c.out⟩, ⟨vK i.out⟩, ⟨bl_⟩⟩
  rw [if_neg aG] at H
  obtain ⟨av, bN⟩ := eF_ aG
  (first | rw [av] | (simp only [i64_w, i32_w]; rw [av]) | skip)
  have H' := Z H
  clear H
  go_wp2
  go_meet
  case rel => exact ⟨_, ((g == 16)), (dn_), H', ⟨by first | omega | exact Nat.le_refl _⟩, ⟨by (with_reducible repeat apply pV); exact Kd.V_mono d.out im_⟩, ⟨vK b.out⟩, ⟨vK c.out⟩, ⟨vK i.out⟩, ⟨bl_⟩⟩
 clear bt
 try clear c4
 try clear bj
 try clear aD
 try clear bH
 try clear bI
 try clear aE
 try clear bJ
 try clear bK
 try clear aF
 try clear bL
 try clear bM
 try clear c8
 obtain ⟨kq, aC, rfl, HA, gO, GA, b, c, i, HB⟩ := hcut
 cases kq with
 | zero => exact absurd HA.out (by simp [keys_plain.j0])
 | succ eu =>
  have H := HA.out
  clear HA
  simp only [keys_plain.j0] at H
  by_cases bO : aC = true
  ·subst bO
   rw [if_pos rfl] at H
   replace H := bn_ H
   obtain ⟨⟨bb, bc, bd, be, bf, bg, eF, eG⟩, fT, H⟩ := H
   try dsimp only at H
   obtain ⟨rfl, rfl, rfl, rfl, rfl, rfl, rfl, rfl⟩ := ij8_ H
   have gl := ns_ M
   have gm := ns_ S
   have eY := cells6 b.out
   have gn := ns_ R
   have e4 := cells2 c.out
   go_wp2_with (first | ((with_reducible refine gF_ 75 rfl ?_); refine gd_ (some 51) Tryz.func75 (keys_set.calls eu u x (fun k_ => ((F k_ ∨ w.heap.size ≤ k_) ∧ (k_ ≠ s ∧ (k_ ≠ r ∧ k_ ≠ a)))) _ _ j y z A g bb bc bd be bf bg eF eG _ GA.out fT.out) ?_; rintro e hR ⟨g5, g6, rfl, ac, ad, hb⟩; refine ⟨_, rfl, ?_⟩; replace GA := vb' GA hb; have bG := Z (Kd.V_lower (Kd.V_mono (ok' := fun k_ => (F k_ ∨ w.heap.size ≤ k_) ∧ k_ ≠ s ∧ k_ ≠ r ∧ k_ ≠ a) ac (fun k_ hk_ => hk_.elim (fun hs_ => ⟨hs_.1, hs_.2.1, hs_.2.2.1, hs_.2.2.2⟩) (fun hn_ => ⟨(ir_ hn_), (fb b.out k_ hn_), (fb c.out k_ hn_), (fb i.out k_ hn_)⟩))) (below_size bl_)); have eM := Z (Kd.V_lower (Kd.V_mono (ok' := fun k_ => (F k_ ∨ w.heap.size ≤ k_) ∧ k_ ≠ s ∧ k_ ≠ r ∧ k_ ≠ a) ad (fun k_ hk_ => hk_.elim (fun hs_ => ⟨hs_.1, hs_.2.1, hs_.2.2.1, hs_.2.2.2⟩) (fun hn_ => ⟨(ir_ hn_), (fb b.out k_ hn_), (fb c.out k_ hn_), (fb i.out k_ hn_)⟩))) (below_size bl_)); replace b := kb' b hb; replace c := kb' c hb; replace i := kb' i hb; replace HB := bs_ hb; (try clear hb); (try clear hk); (try clear ac); (try clear ad); (try simp only [errW_none, errW_some]); have e6 := cells6 i.out; obtain ⟨bs, bA, eX⟩ := Kd.V_slice bG.out; subst eX))
   refine rc2_ (put6 i.out) Tryz.underlying24 ?_
   exact ⟨_, _, er_, by (with_reducible repeat apply pV); exact Kd.V_mono (f6V a (Kd.V_mono bG.out (fun k_ hk => (⟨hk, hk.2.2.2⟩ : _ ∧ k_ ≠ a))) im_) im_, by (with_reducible repeat apply pV); exact Kd.V_mono (f6V a (Kd.V_mono eM.out (fun k_ hk => (⟨hk, hk.2.2.2⟩ : _ ∧ k_ ≠ a))) im_) im_, bl_⟩
  replace bO := Bool.eq_false_iff.mpr bO
  subst bO
  rw [iF_] at H
  obtain ⟨rfl, rfl, rfl, rfl, rfl, rfl, rfl, rfl⟩ := ij8_ H
  have go := ns_ M
  have gp := ns_ S
  have fd := cells6 b.out
  have gq := ns_ R
  have fj := cells6 i.out
  go_wp2
  refine rc2_ (put6 i.out) Tryz.underlying24 ?_
  exact ⟨_, _, er_, by (with_reducible repeat apply pV); exact Kd.V_mono (f6V a (Kd.V_mono GA.out (fun k_ hk => (⟨hk, hk.2.2.2⟩ : _ ∧ k_ ≠ a))) im_) im_, Kd.R_V (Kd.R_nil _ _ _ 0 _), bl_⟩
end Go.Proofs.YtjpedimndkibnaaGreatDoor.P
