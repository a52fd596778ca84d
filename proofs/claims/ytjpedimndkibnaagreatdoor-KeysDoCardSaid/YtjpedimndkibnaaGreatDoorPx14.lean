/- pp.py and press2.py (wip/tools) wrote this text. -/
import Derived.Test.YtjpedimndkibnaaGreatDoorPx0
import Derived.Test.YtjpedimndkibnaaGreatDoorPxS
import Derived.Test.YtjpedimndkibnaaGreatDoorPxT
import Derived.Test.YtjpedimndkibnaaGreatDoorPx9
import Derived.Test.YtjpedimndkibnaaGreatDoorPx10
import Derived.Test.YtjpedimndkibnaaGreatDoorPx12
import Derived.Test.YtjpedimndkibnaaGreatDoorPx13
namespace Go.Proofs.YtjpedimndkibnaaGreatDoor.P
open Go.RowKit Go.Proofs.YtjpedimndkibnaaGreatDoorW.PrintWords Go.Proofs.YtjpedimndkibnaaGreatDoorW.PrintLast Go.Proofs.YtjpedimndkibnaaGreatDoorW.PrintMore
attribute [local go_sem] max2_int min2_int max_two min_two max_three min_three max_four min_four
attribute [local go_sem] Instr.field asAgg
set_option linter.unusedVariables false
set_option linter.unusedSimpArgs false
set_option maxHeartbeats 8000000
set_option maxRecDepth 100000

/-! ### edit_Type: function 73 -/
mutual
def edit_Type.j0 : Nat → Int → Bool → Int → Int → List (S55) → Int → Bool → Bool → Option (Int × Int × (List (S55)) × Int × Bool × Bool × Option Er × (List (S206)))
 | 0, _, _, _, _, _, _, _, _ => none
 | k + 1, n, o, e, g, h, b, c, d => if o = true then (some (e, g, h, b, c, d, some (Er.num 3), ([] : List (S206)))) else (if c = true then (some (e, g, h, b, c, d, some (Er.num 7), ([] : List (S206)))) else ((edit_fits.f k e g h b c d n).bind fun j => (if j.1.isNone = true then ((edit_Modify.f e g h b c d b).bind fun a => (if d = true then ((edit_Line.f k e g h b c d b).bind fun m => ((edit_pushed.f k a.1 a.2.1 a.2.2.1 a.2.2.2.1 a.2.2.2.2.1 a.2.2.2.2.2 m).bind fun l => (edit_Type.j1 k n (!l.1) e g h b c d a.1 a.2.1 l.2 a.2.2.2.1 a.2.2.2.2.1 a.2.2.2.2.2))) else (edit_Type.j1 k n false e g h b c d a.1 a.2.1 a.2.2.1 a.2.2.2.1 a.2.2.2.2.1 a.2.2.2.2.2))) else ((edit_Deny.f e g h b c d (some (j.1.getD ez)) j.2).bind fun i => (some (i.1, i.2.1, i.2.2.1, i.2.2.2.1, i.2.2.2.2.1, i.2.2.2.2.2.1, i.2.2.2.2.2.2.1, i.2.2.2.2.2.2.2))))))
def edit_Type.j1 : Nat → Int → Bool → Int → Int → List (S55) → Int → Bool → Bool → Int → Int → List (S55) → Int → Bool → Bool → Option (Int × Int × (List (S55)) × Int × Bool × Bool × Option Er × (List (S206)))
 | 0, _, _, _, _, _, _, _, _, _, _, _, _, _, _ => none
 | k + 1, s, r, i, j, l, b, m, n, c, d, e, o, g, h => if r = true then ((edit_Deny.f i j l b m n (some (Er.num 10)) ([] : List (S206))).bind fun a => (some (a.1, a.2.1, a.2.2.1, a.2.2.2.1, a.2.2.2.2.1, a.2.2.2.2.2.1, a.2.2.2.2.2.2.1, a.2.2.2.2.2.2.2))) else (if 0 ≤ b then (if b < (e.length : Int) then ((some (e.set (b : Int).toNat (⟨false, (⟨false, false, 0, false⟩ : S53), s⟩ : S55) : List (S55))).bind fun p => ((edit_onward.f k c d p o g h).bind fun q => (some (c, d, p, q, g, h, none, ([] : List (S206)))))) else (none)) else (none))
end
def edit_Type.f (k : Nat) (a b : Int) (g : List (S55)) (c : Int) (d e : Bool) (a1 : Int) : Option (Int × Int × (List (S55)) × Int × Bool × Bool × Option Er × (List (S206))) := if a1 = 0 then (edit_Type.j0 k a1 true a b g c d e) else ((attr_Char.f a1).bind fun h => (edit_Type.j0 k a1 (!h) a b g c d e))
theorem edit_Type.mono_l : ∀ k, (∀ a b c d e f g i, LeO (edit_Type.j0 k a b c d e f g i) (edit_Type.j0 (k + 1) a b c d e f g i)) ∧ (∀ a b c d e f g i q s m n o p, LeO (edit_Type.j1 k a b c d e f g i q s m n o p) (edit_Type.j1 (k + 1) a b c d e f g i q s m n o p))
 | 0 => ⟨fun _ _ _ _ _ _ _ _ r h => by simp [edit_Type.j0] at h, fun _ _ _ _ _ _ _ _ _ _ _ _ _ _ r h => by simp [edit_Type.j1] at h⟩
 | k + 1 => by
  obtain ⟨j, l⟩ := edit_Type.mono_l k
  refine ⟨?_, ?_⟩
  ·intro a b c d e f g i
   unfold edit_Type.j0
   repeat' first
   | (with_reducible exact j _ _ _ _ _ _ _ _)
   | (with_reducible exact l _ _ _ _ _ _ _ _ _ _ _ _ _ _)
   | (with_reducible exact edit_Line.mono _ _ _ _ _ _ _ _)
   | (with_reducible exact edit_fits.mono _ _ _ _ _ _ _ _)
   | (with_reducible exact edit_onward.mono _ _ _ _ _ _ _)
   | (with_reducible exact edit_pushed.mono _ _ _ _ _ _ _ _)
   | (with_reducible exact LeO.refl _)
   | (with_reducible exact LeO.none _)
   | (with_reducible refine LeO.ite ?_ ?_)
   | (with_reducible refine LeO.bind ?_ (fun _ => ?_))
   | exact j _ _ _ _ _ _ _ _
   | exact l _ _ _ _ _ _ _ _ _ _ _ _ _ _
   | exact edit_Line.mono _ _ _ _ _ _ _ _
   | exact edit_fits.mono _ _ _ _ _ _ _ _
   | exact edit_onward.mono _ _ _ _ _ _ _
   | exact edit_pushed.mono _ _ _ _ _ _ _ _
   | exact LeO.none _
   | refine LeO.ite ?_ ?_
   | refine LeO.bind ?_ (fun _ => ?_)
  ·intro a b c d e f g i q s m n o p
   unfold edit_Type.j1
   repeat' first
   | (with_reducible exact j _ _ _ _ _ _ _ _)
   | (with_reducible exact l _ _ _ _ _ _ _ _ _ _ _ _ _ _)
   | (with_reducible exact edit_Line.mono _ _ _ _ _ _ _ _)
   | (with_reducible exact edit_fits.mono _ _ _ _ _ _ _ _)
   | (with_reducible exact edit_onward.mono _ _ _ _ _ _ _)
   | (with_reducible exact edit_pushed.mono _ _ _ _ _ _ _ _)
   | (with_reducible exact LeO.refl _)
   | (with_reducible exact LeO.none _)
   | (with_reducible refine LeO.ite ?_ ?_)
   | (with_reducible refine LeO.bind ?_ (fun _ => ?_))
   | exact j _ _ _ _ _ _ _ _
   | exact l _ _ _ _ _ _ _ _ _ _ _ _ _ _
   | exact edit_Line.mono _ _ _ _ _ _ _ _
   | exact edit_fits.mono _ _ _ _ _ _ _ _
   | exact edit_onward.mono _ _ _ _ _ _ _
   | exact edit_pushed.mono _ _ _ _ _ _ _ _
   | exact LeO.none _
   | refine LeO.ite ?_ ?_
   | refine LeO.bind ?_ (fun _ => ?_)
theorem edit_Type.mono : ∀ a0 a1 c d a4 e g k, LeO (edit_Type.f k a0 a1 c d a4 e g) (edit_Type.f (k + 1) a0 a1 c d a4 e g) := by
 intro a0 a1 c d a4 e g k
 obtain ⟨a, b⟩ := edit_Type.mono_l k
 unfold edit_Type.f
 repeat' first
   | (with_reducible exact a _ _ _ _ _ _ _ _)
   | (with_reducible exact b _ _ _ _ _ _ _ _ _ _ _ _ _ _)
   | (with_reducible exact edit_Line.mono _ _ _ _ _ _ _ _)
   | (with_reducible exact edit_fits.mono _ _ _ _ _ _ _ _)
   | (with_reducible exact edit_onward.mono _ _ _ _ _ _ _)
   | (with_reducible exact edit_pushed.mono _ _ _ _ _ _ _ _)
   | (with_reducible exact LeO.refl _)
   | (with_reducible exact LeO.none _)
   | (with_reducible refine LeO.ite ?_ ?_)
   | (with_reducible refine LeO.bind ?_ (fun _ => ?_))
   | exact a _ _ _ _ _ _ _ _
   | exact b _ _ _ _ _ _ _ _ _ _ _ _ _ _
   | exact edit_Line.mono _ _ _ _ _ _ _ _
   | exact edit_fits.mono _ _ _ _ _ _ _ _
   | exact edit_onward.mono _ _ _ _ _ _ _
   | exact edit_pushed.mono _ _ _ _ _ _ _ _
   | exact LeO.none _
   | refine LeO.ite ?_ ?_
   | refine LeO.bind ?_ (fun _ => ?_)
def edit_Type.T9 : Bool × List (List Nat × List Nat) := (true, [([], []), ([0], [0]), ([1], [1]), ([2], [2]), ([2], [2]), ([2], [2]), ([5, 2], [2, 5]), ([4, 6, 2, 2], [2, 4, 6]), ([3, 7, 7, 2], [2, 3, 7]), ([8, 2], [2, 8]), ([2, 9], [2, 9])])
def edit_Type.B9 : List Nat := [0, 1, 3, 7, 7, 7, 39, 119, 255, 511, 1023]
theorem edit_Type.tab9 : rtab .any (opsOf Tryz.f73 9) = edit_Type.T9 := by kernel_rfl
theorem edit_Type.bits9 : waitsOk edit_Type.T9.2 edit_Type.B9 = true := by kernel_rfl
theorem edit_Type.calls (k : Nat) (u x : Int) (af : Nat → Prop) (aa : Option Addr) (ab : Nat) (r : List (S55)) (b : Int) (ag y : Bool) (a1 r1 r2 : Int) (r3 : List (S55)) (r4 : Int) (r5 r6 : Bool) (r7 : Option Er) (r8 : List (S206)) (w : World) (dO : Kd.V k55 55 w w.heap.size (fun k_ => af k_) (.slice aa r.length ab) r) (h : edit_Type.f k u x r b ag y a1 = some (r1, r2, r3, r4, r5, r6, r7, r8)) :
  Calls Tryz.prog 73 #[.agg #[.int .i64 u, .int .i64 x, .slice aa r.length ab, .int .i64 b, .bool ag, .bool y], .int .u8 a1] w fun e w' => ∃ d3 d4 : Value, e = .returned (.tuple #[.agg #[.int .i64 r1, .int .i64 r2, d3, .int .i64 r4, .bool r5, .bool r6], errW d4 r7]) ∧ Kd.V k55 55 w' w.heap.size (fun k_ => (af k_ ∨ w.heap.size ≤ k_)) d3 r3 ∧ Kd.V k206 206 w' w.heap.size (fun k_ => (af k_ ∨ w.heap.size ≤ k_)) d4 r8 ∧ Below w.heap.size w w' := by
 have hv := Tryz.underlying24
 have hy := Tryz.underlying55
 have hx := Tryz.underlying34
 have hz := Tryz.underlying69
 have aB := Z (show Kd.V k55 55 w w.heap.size (fun k_ => (af k_ ∨ w.heap.size ≤ k_)) (.slice aa r.length ab) r from Kd.V_mono dO (fun k_ hk => .inl hk))
 have HB := Z (Below.refl w.heap.size w)
 unfold edit_Type.f at h
 have H := h
 clear h
 have c5 := Z H
 clear H
 go_enter Tryz.func73, Tryz.ntmps73
 go_upto_region 1 with (first | ((with_reducible refine gD_ 2 rfl ?_); refine bx_ 2 24 #[.int .i64 u, .int .i64 x, .slice aa r.length ab, .int .i64 b, .bool ag, .bool y] ?_; intro E hg w4 hbox hb; replace aB := ve' aB hg hb; have c := Z hbox; have gO := ln' w hg; replace HB := bs_ hb; clear hb hbox hg) | ((with_reducible refine gD_ 4 rfl ?_); refine bx_ 4 24 zS_ ?_; intro d hg w5 hbox hb; replace aB := ve' aB hg hb; have l := Z hbox; have gP := ln' w hg; replace HB := bs_ hb; have ak := nl' c hg; replace c := kb' c hb; clear hb hbox hg))
 (try simp only [Act.put, sA, sB, sC])
 go_cut [8] (fun v8 wc => ∃ (kq : Nat) (a7 : Bool), v8 = .bool a7 ∧ Aside0 (edit_Type.j0 kq a1 a7 u x r b ag y = some (r1, r2, r3, r4, r5, r6, r7, r8)) ∧ Aside0 (kq ≤ k) ∧ Aside0 (Kd.V k55 55 wc w.heap.size (fun k_ => (af k_ ∨ w.heap.size ≤ k_) ∧ k_ ≠ E ∧ k_ ≠ d) (.slice aa r.length ab) r) ∧ Aside0 (wc.heap[E]? = some (.cells #[.int .i64 u, .int .i64 x, (.slice aa r.length ab), .int .i64 b, .bool ag, .bool y] 24 (0, 0))) ∧ Aside0 (wc.heap[d]? = some (.cells zS_ 24 (0, 0))) ∧ Aside0 (Below w.heap.size w wc))
 case first =>
  have H := c5.out
  clear c5
  by_cases c6 : a1 = 0
  ·rw [if_pos c6] at H
   obtain ⟨aN, bg⟩ := eT_ c6
   clear c6
   (first | rw [aN] | (simp only [i64_w, i32_w]; rw [aN]) | skip)
   have H' := Z H
   clear H
   go_wp2
   go_meet
   case rel => exact ⟨_, (true), (dn_), H', ⟨by first | omega | exact Nat.le_refl _⟩, ⟨by (with_reducible repeat apply pV); exact Kd.V_mono aB.out im_⟩, ⟨vK c.out⟩, ⟨vK l.out⟩, ⟨bl_⟩⟩
  rw [if_neg c6] at H
  obtain ⟨aN, bg⟩ := eF_ c6
  (first | rw [aN] | (simp only [i64_w, i32_w]; rw [aN]) | skip)
  replace H := bn_ H
  obtain ⟨aS, A7, H⟩ := H
  have H' := Z H
  clear H
  go_wp2_with (first | (go_at_call 94; (with_reducible refine (attr_Char.calls a1 aS _ A7.out).mono ?_); rintro e w' ⟨rfl, ⟨nd, rfl⟩⟩))
  go_meet
  case rel => exact ⟨_, (!aS), (dn_), H', ⟨by first | omega | exact Nat.le_refl _⟩, ⟨by (with_reducible repeat apply pV); exact Kd.V_mono aB.out im_⟩, ⟨vK c.out⟩, ⟨vK l.out⟩, ⟨bl_⟩⟩
 clear c5
 obtain ⟨kq, a7, rfl, HA, dX, GA, c, l, HB⟩ := hcut
 cases kq with
 | zero => exact absurd HA.out (by simp [edit_Type.j0])
 | succ ad =>
  have H := HA.out
  clear HA
  simp only [edit_Type.j0] at H
  by_cases c8 : a7 = true
  ·subst c8
   rw [if_pos rfl] at H
   obtain ⟨rfl, rfl, rfl, rfl, rfl, rfl, rfl, rfl⟩ := ij8_ H
   have ht := ns_ ak
   have bw := cells6 c.out
   have bD := cells6 l.out
   go_wp2
   refine rc2_ (put6 l.out) Tryz.underlying24 ?_
   exact ⟨_, _, er_, by (with_reducible repeat apply pV); exact Kd.V_mono (f6V d (Kd.V_mono GA.out (fun k_ hk => (⟨hk, hk.2.2⟩ : _ ∧ k_ ≠ d))) im_) im_, Kd.R_V (Kd.R_nil _ _ _ 0 _), bl_⟩
  replace c8 := Bool.eq_false_iff.mpr c8
  subst c8
  rw [iF_] at H
  by_cases a8 : ag = true
  ·subst a8
   rw [if_pos rfl] at H
   obtain ⟨rfl, rfl, rfl, rfl, rfl, rfl, rfl, rfl⟩ := ij8_ H
   have gT := ns_ ak
   have bJ := cells6 c.out
   have bP := cells6 l.out
   go_wp2
   refine rc2_ (put6 l.out) Tryz.underlying24 ?_
   exact ⟨_, _, er_, by (with_reducible repeat apply pV); exact Kd.V_mono (f6V d (Kd.V_mono GA.out (fun k_ hk => (⟨hk, hk.2.2⟩ : _ ∧ k_ ≠ d))) im_) im_, Kd.R_V (Kd.R_nil _ _ _ 0 _), bl_⟩
  replace a8 := Bool.eq_false_iff.mpr a8
  subst a8
  rw [iF_] at H
  replace H := bn_ H
  obtain ⟨⟨bl, aL⟩, dV, H⟩ := H
  try dsimp only at H
  rcases bl with _ | aR
  rotate_left
  ·rw [if_neg (show ¬ (some aR).isNone = true by simp)] at H
   try dsimp only [Option.getD_some] at H
   try simp only [errW_none, errW_some]
   replace H := bn_ H
   obtain ⟨⟨aZ, a0, a2, a3, a4, a5, dE, dF⟩, gv, H⟩ := H
   try dsimp only at H
   obtain ⟨rfl, rfl, rfl, rfl, rfl, rfl, rfl, rfl⟩ := ij8_ H
   have g3 := ns_ ak
   have e0 := cells6 c.out
   go_wp2_with (first | ((with_reducible refine gF_ 114 rfl ?_); refine gd_ (some 25) Tryz.func114 (edit_fits.calls ad u x _ _ r b false y a1 (some aR) aL _ (vC_ GA) (vL_ GA) dV.out) ?_; rintro e hU ⟨bo, rfl, ai, hb⟩; refine ⟨_, rfl, ?_⟩; replace GA := vb' GA hb; have I := Z (Kd.V_lower (Kd.V_mono (ok' := fun k_ => (af k_ ∨ w.heap.size ≤ k_) ∧ k_ ≠ E ∧ k_ ≠ d) ai (fun k_ hk_ => ⟨(.inr (Nat.le_trans (below_size bl_) hk_)), (Kd.freshB (g := E) (o := .cells #[.int .i64 u, .int .i64 x, .slice aa r.length ab, .int .i64 b, .bool false, .bool y] 24 (0, 0)) (vK c.out) k_ hk_), (Kd.freshB (g := d) (o := .cells zS_ 24 (0, 0)) (vK l.out) k_ hk_)⟩)) (below_size bl_)); replace c := kb' c hb; replace l := kb' l hb; replace HB := bs_ hb; (try clear hb); (try clear hk); (try clear ai); (try simp only [errW_none, errW_some]); have e6 := cells6 c.out; obtain ⟨d5, d6, ea⟩ := Kd.V_slice I.out; subst ea) | ((with_reducible refine gF_ 111 rfl ?_); refine gd_ (some 30) Tryz.func111 (edit_Deny.calls u x _ _ r b false y (some aR) _ _ aL aZ a0 a2 a3 a4 a5 dE dF _ (vC_ GA) (vL_ GA) (vC_ I) (vL_ I) gv.out) ?_; rintro e hV ⟨ei, hD, rfl, ai, ba, hb⟩; refine ⟨_, rfl, ?_⟩; replace GA := Z (Kd.V_elder' (vV GA.out) (Kd.R_base ai) hb); replace I := Z (Kd.V_elder' (vV I.out) (Kd.R_base ai) hb); have bq := Z (Kd.R_lower (Kd.R_newM (M := fun k_ => (w.heap.size ≤ k_)) (Kd.R_mono (ok' := fun k_ => True) ai (fun _ hk_ => trivial)) (below_size bl_) (fun k_ h_ => h_)) (below_size bl_)); have dL := Z (Kd.V_lower (Kd.V_mono (ok' := fun k_ => (af k_ ∨ w.heap.size ≤ k_) ∧ some k_ ≠ (ei : Value).ownBlock ∧ k_ ≠ E ∧ k_ ≠ d) ba (fun k_ hk_ => ⟨(.inr (Nat.le_trans (below_size bl_) hk_.1)), hk_.2, (Kd.freshB (g := E) (o := .cells #[.int .i64 u, .int .i64 x, .slice aa r.length ab, .int .i64 b, .bool false, .bool y] 24 (0, 0)) (vK c.out) k_ hk_.1), (Kd.freshB (g := d) (o := .cells zS_ 24 (0, 0)) (vK l.out) k_ hk_.1)⟩)) (below_size bl_)); replace c := kb' c hb; replace l := kb' l hb; replace HB := bs_ hb; (try clear hb); (try clear hk); (try clear ai); (try clear ba); (try simp only [errW_none, errW_some]); have fc := cells6 l.out; obtain ⟨bd, bj, eb⟩ := Kd.R_slice bq.out; subst eb))
   refine rc2_ (put6 l.out) Tryz.underlying24 ?_
   exact ⟨_, _, er_, Kd.V_mono (Kd.R_V (by (with_reducible repeat apply pR); exact Kd.R_mono (f6R d (Kd.R_types bq.out l.out (by decide)) im_) (fun _ hk => hk.1.1))) (fun k_ hk => by first | exact ⟨(.inr (hk.1)), hk.2⟩ | exact (.inr (hk))), by (with_reducible repeat apply pV); exact Kd.V_mono (f6V d (Kd.V_mono dL.out (fun k_ hk => (⟨hk, hk.2.2.2⟩ : _ ∧ k_ ≠ d))) im_) im_, bl_⟩
  rw [if_pos (show (none : Option Er).isNone = true by rfl)] at H
  try dsimp only [Option.getD_some] at H
  try simp only [errW_none, errW_some]
  replace H := bn_ H
  obtain ⟨⟨z, A, D, F, B, C⟩, gq, H⟩ := H
  try dsimp only at H
  have be := Z H
  clear H
  have gU := ns_ ak
  have bV := cells6 c.out
  go_upto_region 9 with (first | ((with_reducible refine gF_ 114 rfl ?_); refine gd_ (some 25) Tryz.func114 (edit_fits.calls ad u x _ _ r b false y a1 none aL _ (vC_ GA) (vL_ GA) dV.out) ?_; rintro e hM ⟨bo, rfl, ai, hb⟩; refine ⟨_, rfl, ?_⟩; replace GA := vb' GA hb; have I := Z (Kd.V_lower (Kd.V_mono (ok' := fun k_ => (af k_ ∨ w.heap.size ≤ k_) ∧ k_ ≠ E ∧ k_ ≠ d) ai (fun k_ hk_ => ⟨(.inr (Nat.le_trans (below_size bl_) hk_)), (Kd.freshB (g := E) (o := .cells #[.int .i64 u, .int .i64 x, .slice aa r.length ab, .int .i64 b, .bool false, .bool y] 24 (0, 0)) (vK c.out) k_ hk_), (Kd.freshB (g := d) (o := .cells zS_ 24 (0, 0)) (vK l.out) k_ hk_)⟩)) (below_size bl_)); replace c := kb' c hb; replace l := kb' l hb; replace HB := bs_ hb; (try clear hb); (try clear hk); (try clear ai); (try simp only [errW_none, errW_some]); have b1 := cells6 c.out) | ((with_reducible refine gF_ 113 rfl ?_); refine gd_ (some 36) Tryz.func113 (edit_Modify.calls u x _ _ r b false y b z A D F B C _ (vC_ GA) (vL_ GA) gq.out) ?_; rintro e hN ⟨hA, rfl, ai, hb⟩; refine ⟨_, rfl, ?_⟩; replace GA := Z (Kd.V_elder' (vV GA.out) (Kd.R_base ai) hb); replace I := Z (Kd.V_elder' (vV I.out) (Kd.R_base ai) hb); have J := Z (Kd.R_lower (Kd.R_newM (M := fun k_ => (w.heap.size ≤ k_)) ai (below_size bl_) (fun k_ h_ => h_)) (below_size bl_)); replace c := kb' c hb; replace l := kb' l hb; replace HB := bs_ hb; (try clear hb); (try clear hk); (try clear ai)) | ((with_reducible refine gD_ 7 rfl ?_); refine bx_ 7 24 zS_ ?_; intro a hg ao hbox hb; replace GA := ve' GA hg hb; replace I := ve' I hg hb; replace J := rb' J hb; have s := Z hbox; have gQ := ln' w hg; replace HB := bs_ hb; have an := nl' c hg; replace c := kb' c hb; have am := nl' l hg; replace l := kb' l hb; clear hb hbox hg; have gV := ns_ an; have gW := ns_ am; have b7 := cells6 s.out; obtain ⟨L, O, d7⟩ := Kd.R_slice J.out; subst d7))
  (try simp only [Act.put, sA, sB, sC])
  go_cut [47] (fun gL wc => ∃ (kq : Nat) (aP : Bool) (ah : List (S55)) (q : List (S55)) (GC : Value) (GD : Value), gL = .bool aP ∧ Aside0 (edit_Type.j1 kq a1 aP u x ah b false y z A q F B C = some (r1, r2, r3, r4, r5, r6, r7, r8)) ∧ Aside0 (kq ≤ ad) ∧ Aside0 (Kd.V k55 55 wc w.heap.size (fun k_ => (af k_ ∨ w.heap.size ≤ k_) ∧ some k_ ≠ (GD : Value).ownBlock ∧ k_ ≠ E ∧ k_ ≠ d ∧ k_ ≠ a) GC ah) ∧ Aside0 (Kd.R k55 55 wc w.heap.size (fun k_ => (w.heap.size ≤ k_)) GD q) ∧ Aside0 (wc.heap[E]? = some (.cells #[.int .i64 u, .int .i64 x, GC, .int .i64 b, .bool false, .bool y] 24 (0, 0))) ∧ Aside0 (wc.heap[d]? = some (.cells zS_ 24 (0, 0))) ∧ Aside0 (wc.heap[a]? = some (.cells #[.int .i64 z, .int .i64 A, GD, .int .i64 F, .bool B, .bool C] 24 (0, 0))) ∧ Aside0 (Below w.heap.size w wc))
  case first =>
   have H := be.out
   clear be
   cases y
   ·rw [iF_] at H
    have H' := Z H
    clear H
    try go_wp2
    have P : Aside0 (Kd.V k55 55 ((((((ao.setCell ⟨a, 0, none⟩ (.int .i64 z)).setCell ⟨a, 1, none⟩ (.int .i64 A)).setCell ⟨a, 2, none⟩ (.slice L D.length O)).setCell ⟨a, 3, none⟩ (.int .i64 F)).setCell ⟨a, 4, none⟩ (.bool B)).setCell ⟨a, 5, none⟩ (.bool C)) w.heap.size (fun k_ => (af k_ ∨ w.heap.size ≤ k_) ∧ some k_ ≠ (.slice L D.length O : Value).ownBlock ∧ k_ ≠ E ∧ k_ ≠ d ∧ k_ ≠ a) (.slice aa r.length ab) r) := ⟨by (with_reducible repeat apply pV); exact Kd.V_mono (f6V a (Kd.V_mono GA.out (fun k_ hk => (⟨hk, hk.2⟩ : _ ∧ k_ ≠ a))) im_) im_⟩
    have Q : Aside0 (Kd.V k206 206 ((((((ao.setCell ⟨a, 0, none⟩ (.int .i64 z)).setCell ⟨a, 1, none⟩ (.int .i64 A)).setCell ⟨a, 2, none⟩ (.slice L D.length O)).setCell ⟨a, 3, none⟩ (.int .i64 F)).setCell ⟨a, 4, none⟩ (.bool B)).setCell ⟨a, 5, none⟩ (.bool C)) w.heap.size (fun k_ => (af k_ ∨ w.heap.size ≤ k_) ∧ some k_ ≠ (.slice L D.length O : Value).ownBlock ∧ k_ ≠ E ∧ k_ ≠ d ∧ k_ ≠ a) bo aL) := ⟨by (with_reducible repeat apply pV); exact Kd.V_mono (f6V a (Kd.V_mono I.out (fun k_ hk => (⟨hk, hk.2⟩ : _ ∧ k_ ≠ a))) im_) im_⟩
    have T : Aside0 (Kd.R k55 55 ((((((ao.setCell ⟨a, 0, none⟩ (.int .i64 z)).setCell ⟨a, 1, none⟩ (.int .i64 A)).setCell ⟨a, 2, none⟩ (.slice L D.length O)).setCell ⟨a, 3, none⟩ (.int .i64 F)).setCell ⟨a, 4, none⟩ (.bool B)).setCell ⟨a, 5, none⟩ (.bool C)) w.heap.size (fun k_ => (w.heap.size ≤ k_)) (.slice L D.length O) D) := ⟨by (with_reducible repeat apply pR); exact Kd.R_mono (f6R a (Kd.R_types J.out s.out (by decide)) im_) im_⟩
    have U : Aside0 (((((((ao.setCell ⟨a, 0, none⟩ (.int .i64 z)).setCell ⟨a, 1, none⟩ (.int .i64 A)).setCell ⟨a, 2, none⟩ (.slice L D.length O)).setCell ⟨a, 3, none⟩ (.int .i64 F)).setCell ⟨a, 4, none⟩ (.bool B)).setCell ⟨a, 5, none⟩ (.bool C)).heap[E]? = some (.cells #[.int .i64 u, .int .i64 x, .slice aa r.length ab, .int .i64 b, .bool false, .bool false] 24 (0, 0))) := ⟨blk_off c.out an.out off2_⟩
    have W : Aside0 (((((((ao.setCell ⟨a, 0, none⟩ (.int .i64 z)).setCell ⟨a, 1, none⟩ (.int .i64 A)).setCell ⟨a, 2, none⟩ (.slice L D.length O)).setCell ⟨a, 3, none⟩ (.int .i64 F)).setCell ⟨a, 4, none⟩ (.bool B)).setCell ⟨a, 5, none⟩ (.bool C)).heap[d]? = some (.cells zS_ 24 (0, 0))) := ⟨blk_off l.out am.out off2_⟩
    have Y : Aside0 (((((((ao.setCell ⟨a, 0, none⟩ (.int .i64 z)).setCell ⟨a, 1, none⟩ (.int .i64 A)).setCell ⟨a, 2, none⟩ (.slice L D.length O)).setCell ⟨a, 3, none⟩ (.int .i64 F)).setCell ⟨a, 4, none⟩ (.bool B)).setCell ⟨a, 5, none⟩ (.bool C)).heap[a]? = some (.cells #[.int .i64 z, .int .i64 A, .slice L D.length O, .int .i64 F, .bool B, .bool C] 24 (0, 0))) := ⟨put6 s.out⟩
    have ae : Aside0 (Below w.heap.size w ((((((ao.setCell ⟨a, 0, none⟩ (.int .i64 z)).setCell ⟨a, 1, none⟩ (.int .i64 A)).setCell ⟨a, 2, none⟩ (.slice L D.length O)).setCell ⟨a, 3, none⟩ (.int .i64 F)).setCell ⟨a, 4, none⟩ (.bool B)).setCell ⟨a, 5, none⟩ (.bool C))) := ⟨bl_⟩
    (try clear GA)
    (try clear I)
    (try clear J)
    (try clear c)
    (try clear l)
    (try clear s)
    (try clear HB)
    generalize ((((((ao.setCell ⟨a, 0, none⟩ (.int .i64 z)).setCell ⟨a, 1, none⟩ (.int .i64 A)).setCell ⟨a, 2, none⟩ (.slice L D.length O)).setCell ⟨a, 3, none⟩ (.int .i64 F)).setCell ⟨a, 4, none⟩ (.bool B)).setCell ⟨a, 5, none⟩ (.bool C)) = gN at P Q T U W Y ae ⊢
    have GA := P
    have I := Q
    have J := T
    have c := U
    have l := W
    have s := Y
    have HB := ae
    clear P Q T U W Y ae
    replace GA := Z (Kd.V_drew GA.out)
    replace I := Z (Kd.V_drew I.out)
    replace J := Z (Kd.R_drew J.out)
    replace c := Z (blk_drew c.out)
    replace l := Z (blk_drew l.out)
    replace s := Z (blk_drew s.out)
    replace HB := Z (below_drew1 HB.out)
    refine start_ (n := 11) (S := fun w' => w'.cell? ⟨E, 0, none⟩ = some (.int .i64 u) ∧ w'.cell? ⟨E, 1, none⟩ = some (.int .i64 x) ∧ w'.cell? ⟨E, 2, none⟩ = some (.slice aa r.length ab) ∧ w'.cell? ⟨E, 3, none⟩ = some (.int .i64 b) ∧ w'.cell? ⟨E, 4, none⟩ = some (.bool false) ∧ w'.cell? ⟨E, 5, none⟩ = some (.bool false)) (ds := []) (bv 11 0) (by kernel_rfl) rfl rfl ⟨(blk_cell c.out 0).trans rfl, (blk_cell c.out 1).trans rfl, (blk_cell c.out 2).trans rfl, (blk_cell c.out 3).trans rfl, (blk_cell c.out 4).trans rfl, (blk_cell c.out 5).trans rfl⟩ (fun hHeld => ?_); refine with_tabW edit_Type.tab9 edit_Type.bits9 (fun HT_ HW_ => ?_)
    generalize gN.drew = hR at GA I J c l s HB hHeld ⊢
    refine pT_ HT_ 0 11 1 (some 37) ?_
    refine tT_ HT_ HW_ hHeld 1 11 3 (some 38) ?_
    refine pT_ HT_ 2 11 7 (some 39) ?_
    refine pU_ HT_ 3 11 15 (some 40) ?_
    refine pU_ HT_ 4 11 31 (some 41) ?_
    refine pU_ HT_ 5 11 63 (some 42) ?_
    refine pU_ HT_ 6 11 127 (some 43) ?_
    refine pU_ HT_ 7 11 255 (some 44) ?_
    refine pU_ HT_ 8 11 511 (some 45) ?_
    refine pU_ HT_ 9 11 1023 (some 46) ?_
    refine pT_ HT_ 10 11 2047 (some 47) ?_
    refine done_ (done_of HT_.out (by kernel_rfl)) ?_
    try go_wp2
    go_meet
    case rel => exact ⟨_, (false), (r), (D), (.slice aa r.length ab), (.slice L D.length O), (dn_), H', ⟨by have := dX.out; first | omega | exact Nat.le_refl _⟩, ⟨vV GA.out⟩, ⟨by (with_reducible repeat apply pR); exact J.out⟩, ⟨vK c.out⟩, ⟨vK l.out⟩, ⟨vK s.out⟩, ⟨bl_⟩⟩
   rw [if_pos rfl] at H
   replace H := bn_ H
   obtain ⟨aj, gr, H⟩ := H
   replace H := bn_ H
   obtain ⟨⟨bm, bn⟩, gs, H⟩ := H
   try dsimp only at H
   have H' := Z H
   clear H
   try go_wp2
   have P : Aside0 (Kd.V k55 55 ((((((ao.setCell ⟨a, 0, none⟩ (.int .i64 z)).setCell ⟨a, 1, none⟩ (.int .i64 A)).setCell ⟨a, 2, none⟩ (.slice L D.length O)).setCell ⟨a, 3, none⟩ (.int .i64 F)).setCell ⟨a, 4, none⟩ (.bool B)).setCell ⟨a, 5, none⟩ (.bool C)) w.heap.size (fun k_ => (af k_ ∨ w.heap.size ≤ k_) ∧ some k_ ≠ (.slice L D.length O : Value).ownBlock ∧ k_ ≠ E ∧ k_ ≠ d ∧ k_ ≠ a) (.slice aa r.length ab) r) := ⟨by (with_reducible repeat apply pV); exact Kd.V_mono (f6V a (Kd.V_mono GA.out (fun k_ hk => (⟨hk, hk.2⟩ : _ ∧ k_ ≠ a))) im_) im_⟩
   have Q : Aside0 (Kd.V k206 206 ((((((ao.setCell ⟨a, 0, none⟩ (.int .i64 z)).setCell ⟨a, 1, none⟩ (.int .i64 A)).setCell ⟨a, 2, none⟩ (.slice L D.length O)).setCell ⟨a, 3, none⟩ (.int .i64 F)).setCell ⟨a, 4, none⟩ (.bool B)).setCell ⟨a, 5, none⟩ (.bool C)) w.heap.size (fun k_ => (af k_ ∨ w.heap.size ≤ k_) ∧ some k_ ≠ (.slice L D.length O : Value).ownBlock ∧ k_ ≠ E ∧ k_ ≠ d ∧ k_ ≠ a) bo aL) := ⟨by (with_reducible repeat apply pV); exact Kd.V_mono (f6V a (Kd.V_mono I.out (fun k_ hk => (⟨hk, hk.2⟩ : _ ∧ k_ ≠ a))) im_) im_⟩
   have T : Aside0 (Kd.R k55 55 ((((((ao.setCell ⟨a, 0, none⟩ (.int .i64 z)).setCell ⟨a, 1, none⟩ (.int .i64 A)).setCell ⟨a, 2, none⟩ (.slice L D.length O)).setCell ⟨a, 3, none⟩ (.int .i64 F)).setCell ⟨a, 4, none⟩ (.bool B)).setCell ⟨a, 5, none⟩ (.bool C)) w.heap.size (fun k_ => (w.heap.size ≤ k_)) (.slice L D.length O) D) := ⟨by (with_reducible repeat apply pR); exact Kd.R_mono (f6R a (Kd.R_types J.out s.out (by decide)) im_) im_⟩
   have U : Aside0 (((((((ao.setCell ⟨a, 0, none⟩ (.int .i64 z)).setCell ⟨a, 1, none⟩ (.int .i64 A)).setCell ⟨a, 2, none⟩ (.slice L D.length O)).setCell ⟨a, 3, none⟩ (.int .i64 F)).setCell ⟨a, 4, none⟩ (.bool B)).setCell ⟨a, 5, none⟩ (.bool C)).heap[E]? = some (.cells #[.int .i64 u, .int .i64 x, .slice aa r.length ab, .int .i64 b, .bool false, .bool true] 24 (0, 0))) := ⟨blk_off c.out an.out off2_⟩
   have W : Aside0 (((((((ao.setCell ⟨a, 0, none⟩ (.int .i64 z)).setCell ⟨a, 1, none⟩ (.int .i64 A)).setCell ⟨a, 2, none⟩ (.slice L D.length O)).setCell ⟨a, 3, none⟩ (.int .i64 F)).setCell ⟨a, 4, none⟩ (.bool B)).setCell ⟨a, 5, none⟩ (.bool C)).heap[d]? = some (.cells zS_ 24 (0, 0))) := ⟨blk_off l.out am.out off2_⟩
   have Y : Aside0 (((((((ao.setCell ⟨a, 0, none⟩ (.int .i64 z)).setCell ⟨a, 1, none⟩ (.int .i64 A)).setCell ⟨a, 2, none⟩ (.slice L D.length O)).setCell ⟨a, 3, none⟩ (.int .i64 F)).setCell ⟨a, 4, none⟩ (.bool B)).setCell ⟨a, 5, none⟩ (.bool C)).heap[a]? = some (.cells #[.int .i64 z, .int .i64 A, .slice L D.length O, .int .i64 F, .bool B, .bool C] 24 (0, 0))) := ⟨put6 s.out⟩
   have ae : Aside0 (Below w.heap.size w ((((((ao.setCell ⟨a, 0, none⟩ (.int .i64 z)).setCell ⟨a, 1, none⟩ (.int .i64 A)).setCell ⟨a, 2, none⟩ (.slice L D.length O)).setCell ⟨a, 3, none⟩ (.int .i64 F)).setCell ⟨a, 4, none⟩ (.bool B)).setCell ⟨a, 5, none⟩ (.bool C))) := ⟨bl_⟩
   (try clear GA)
   (try clear I)
   (try clear J)
   (try clear c)
   (try clear l)
   (try clear s)
   (try clear HB)
   generalize ((((((ao.setCell ⟨a, 0, none⟩ (.int .i64 z)).setCell ⟨a, 1, none⟩ (.int .i64 A)).setCell ⟨a, 2, none⟩ (.slice L D.length O)).setCell ⟨a, 3, none⟩ (.int .i64 F)).setCell ⟨a, 4, none⟩ (.bool B)).setCell ⟨a, 5, none⟩ (.bool C)) = gM at P Q T U W Y ae ⊢
   have GA := P
   have I := Q
   have J := T
   have c := U
   have l := W
   have s := Y
   have HB := ae
   clear P Q T U W Y ae
   replace GA := Z (Kd.V_drew GA.out)
   replace I := Z (Kd.V_drew I.out)
   replace J := Z (Kd.R_drew J.out)
   replace c := Z (blk_drew c.out)
   replace l := Z (blk_drew l.out)
   replace s := Z (blk_drew s.out)
   replace HB := Z (below_drew1 HB.out)
   refine start_ (n := 11) (S := fun w' => w'.cell? ⟨E, 0, none⟩ = some (.int .i64 u) ∧ w'.cell? ⟨E, 1, none⟩ = some (.int .i64 x) ∧ w'.cell? ⟨E, 2, none⟩ = some (.slice aa r.length ab) ∧ w'.cell? ⟨E, 3, none⟩ = some (.int .i64 b) ∧ w'.cell? ⟨E, 4, none⟩ = some (.bool false) ∧ w'.cell? ⟨E, 5, none⟩ = some (.bool true) ∧ w'.cell? ⟨a, 0, none⟩ = some (.int .i64 z) ∧ w'.cell? ⟨a, 1, none⟩ = some (.int .i64 A) ∧ w'.cell? ⟨a, 2, none⟩ = some (.slice L D.length O) ∧ w'.cell? ⟨a, 3, none⟩ = some (.int .i64 F) ∧ w'.cell? ⟨a, 4, none⟩ = some (.bool B) ∧ w'.cell? ⟨a, 5, none⟩ = some (.bool C)) (ds := []) (bv 11 0) (by kernel_rfl) rfl rfl ⟨(blk_cell c.out 0).trans rfl, (blk_cell c.out 1).trans rfl, (blk_cell c.out 2).trans rfl, (blk_cell c.out 3).trans rfl, (blk_cell c.out 4).trans rfl, (blk_cell c.out 5).trans rfl, (blk_cell s.out 0).trans rfl, (blk_cell s.out 1).trans rfl, (blk_cell s.out 2).trans rfl, (blk_cell s.out 3).trans rfl, (blk_cell s.out 4).trans rfl, (blk_cell s.out 5).trans rfl⟩ (fun hHeld => ?_); refine with_tabW edit_Type.tab9 edit_Type.bits9 (fun HT_ HW_ => ?_)
   generalize gM.drew = hO at GA I J c l s HB hHeld ⊢
   refine pT_ HT_ 0 11 1 (some 37) ?_
   refine tT_ HT_ HW_ hHeld 1 11 3 (some 38) ?_
   refine pT_ HT_ 2 11 7 (some 39) ?_
   refine pT_ HT_ 5 11 39 (some 42) ?_
   refine tT_ HT_ HW_ hHeld 3 11 47 (some 40) ?_
   refine tT_ HT_ HW_ hHeld 4 11 63 (some 41) ?_
   refine tT_ HT_ HW_ hHeld 6 11 127 (some 43) ?_
   refine oT_ HT_ 7 11 255 (some 44) (fun K hK => ?_)
   refine goes_ Tryz.func112 (by kernel_rfl) rfl #[.agg #[.int .i64 u, .int .i64 x, .slice aa r.length ab, .int .i64 b, .bool false, .bool true], .int .i64 b] (by rfl) rfl rfl ag_ ?_
   with_reducible refine (edit_Line.calls ad u x _ _ r b false true b aj _ ?side1 ?side2 gr.out).mono ?_
   (case side1 => repeat (first | exact (Kd.V_reads' GA.out).2.2 | (with_reducible apply pC)))
   (case side2 => exact (Kd.V_reads' GA.out).2.1)
   rintro e hP ⟨hB, rfl, ai, hb⟩
   refine ⟨_, rfl, ?_⟩
   have P := Z (Kd.V_elder' (vV GA.out) (Kd.Q_base ai) hb)
   have Q := Z (Kd.V_elder' (vV I.out) (Kd.Q_base ai) hb)
   have T := rb' J hb
   have U := Z (Kd.Q_lower (Kd.Q_newM (M := fun k_ => (w.heap.size ≤ k_)) ai (below_size bl_) (fun k_ h_ => h_)) (below_size bl_))
   have W := kb' c hb
   have Y := kb' l hb
   have ae := kb' s hb
   have aE := bs_ hb
   clear GA
   clear I
   clear J
   clear c
   clear l
   clear s
   clear HB
   have GA := P
   have I := Q
   have J := T
   have aM := U
   have c := W
   have l := Y
   have s := ae
   have HB := aE
   clear P Q T U W Y ae aE
   (try clear hb)
   (try clear a6)
   (try clear hk)
   (try clear hi)
   (try clear ai)
   obtain ⟨bb, bh, dd, _⟩ := Kd.Q_slice aM.out
   (first | subst dd | (injection dd with dY gw dZ; have gx := dY.symm; have gy := dZ.symm; clear dY gw dZ; subst gx; subst gy))
   refine hK.out _ _ ⟨(blk_cell c.out 0).trans rfl, (blk_cell c.out 1).trans rfl, (blk_cell c.out 2).trans rfl, (blk_cell c.out 3).trans rfl, (blk_cell c.out 4).trans rfl, (blk_cell c.out 5).trans rfl, (blk_cell s.out 0).trans rfl, (blk_cell s.out 1).trans rfl, (blk_cell s.out 2).trans rfl, (blk_cell s.out 3).trans rfl, (blk_cell s.out 4).trans rfl, (blk_cell s.out 5).trans rfl⟩ (fun hHeld => ?_)
   clear hK K
   refine nA_ (some 44) ?_
   refine oT_ HT_ 8 11 511 (some 45) (fun K hK => ?_)
   refine goes_ Tryz.func115 (by kernel_rfl) rfl #[.agg #[.int .i64 z, .int .i64 A, .slice L D.length O, .int .i64 F, .bool B, .bool C], .slice bb aj.length bh] (by rfl) rfl rfl ag_ ?_
   with_reducible refine (edit_pushed.calls ad z A (fun k_ => some k_ = (.slice L D.length O : Value).ownBlock) (.slice L D.length O) D F B C _ _ aj bm bn w _ ?side1 ?side2 ?side3 ?side4 gs.out).mono ?_
   (case side1 => repeat (first | (with_reducible first | exact HB.out | apply below_alloc | apply pw_below_drewN | apply below_drew1 | refine below_set ?_ gO.out | refine below_set ?_ gP.out | refine below_set ?_ gQ.out) | exact HB.out))
   (case side2 => exact Kd.R_tight rfl J.out)
   (case side3 => exact Kd.C_kept_ownQ ((Kd.Q_apart' aM.out (Kd.R_typed J.out) (by decide))) (fun k_ hk_ hs_ => (hk_.2) hs_))
   (case side4 => exact (Kd.Q_reads' aM.out).2.1)
   rintro e hQ ⟨rfl, d0, hb, hkp⟩
   refine ⟨_, rfl, ?_⟩
   replace GA := Z (Kd.V_mono (ok' := fun k_ => (af k_ ∨ w.heap.size ≤ k_) ∧ some k_ ≠ (.slice L D.length O : Value).ownBlock ∧ some k_ ≠ (.slice bb aj.length bh : Value).ownBlock ∧ k_ ≠ E ∧ k_ ≠ d ∧ k_ ≠ a) (Kd.V_keptB (GA.out) hkp (fun k_ hk_ hs_ => (hk_.1.2.1) hs_)) (fun k_ hk_ => ⟨hk_.1.1.1, hk_.1.1.2.1, hk_.1.2, hk_.1.1.2.2.1, hk_.1.1.2.2.2.1, hk_.1.1.2.2.2.2⟩))
   replace c := Z (blk_kept (vK c.out) hkp (fun hs_ => (fun e_ => (Kd.R_ne J.out c.out (by decide)) e_) hs_))
   replace l := Z (blk_kept (vK l.out) hkp (fun hs_ => (fun e_ => (Kd.R_ne J.out l.out (by decide)) e_) hs_))
   replace I := Z (Kd.V_mono (ok' := fun k_ => (af k_ ∨ w.heap.size ≤ k_) ∧ some k_ ≠ (.slice L D.length O : Value).ownBlock ∧ some k_ ≠ (.slice bb aj.length bh : Value).ownBlock ∧ k_ ≠ E ∧ k_ ≠ d ∧ k_ ≠ a) (Kd.V_keptB (I.out) hkp (fun k_ hk_ hs_ => (hk_.1.2.1) hs_)) (fun k_ hk_ => ⟨hk_.1.1.1, hk_.1.1.2.1, hk_.1.2, hk_.1.1.2.2.1, hk_.1.1.2.2.2.1, hk_.1.1.2.2.2.2⟩))
   replace s := Z (blk_kept (vK s.out) hkp (fun hs_ => (fun e_ => (Kd.R_ne J.out s.out (by decide)) e_) hs_))
   replace aM := Z (Kd.Q_mono (ok' := fun k_ => (w.heap.size ≤ k_)) (Kd.Q_keptB ((Kd.Q_apart' aM.out (Kd.R_typed J.out) (by decide))) hkp (fun k_ hk_ hs_ => (hk_.2) hs_)) (fun k_ hk_ => hk_.1.1.1))
   replace J := Z (Kd.R_reok rfl d0 (fun k_ e_ => J.out.1 k_ e_))
   replace HB := Z (hb)
   (try clear hb)
   (try clear hkp)
   (try clear d0)
   refine hK.out _ _ ⟨(blk_cell c.out 0).trans rfl, (blk_cell c.out 1).trans rfl, (blk_cell c.out 2).trans rfl, (blk_cell c.out 3).trans rfl, (blk_cell c.out 4).trans rfl, (blk_cell c.out 5).trans rfl, (blk_cell s.out 0).trans rfl, (blk_cell s.out 1).trans rfl, (blk_cell s.out 2).trans rfl, (blk_cell s.out 3).trans rfl, (blk_cell s.out 4).trans rfl, (blk_cell s.out 5).trans rfl⟩ (fun hHeld => ?_)
   clear hK K
   refine nA_ (some 45) ?_
   refine pT_ HT_ 9 11 1023 (some 46) ?_
   refine pT_ HT_ 10 11 2047 (some 47) ?_
   refine done_ (done_of HT_.out (by kernel_rfl)) ?_
   try go_wp2
   go_meet
   case rel => exact ⟨_, (!bm), (r), (bn), (.slice aa r.length ab), (.slice L D.length O), (dn_), H', ⟨by have := dX.out; first | omega | exact Nat.le_refl _⟩, ⟨by (with_reducible repeat apply pV); exact Kd.V_mono GA.out im_⟩, ⟨by (with_reducible repeat apply pR); exact J.out⟩, ⟨vK c.out⟩, ⟨vK l.out⟩, ⟨vK s.out⟩, ⟨bl_⟩⟩
  clear be
  try clear c8
  try clear a8
  try clear bV
  try clear b1
  try clear b7
  try clear aR
  obtain ⟨kq, aP, ah, q, GC, GD, rfl, HA, hm, GA, GB, c, l, s, HB⟩ := hcut
  cases kq with
  | zero => exact absurd HA.out (by simp [edit_Type.j1])
  | succ bk =>
   have H := HA.out
   clear HA
   simp only [edit_Type.j1] at H
   by_cases br : aP = true
   ·subst br
    rw [if_pos rfl] at H
    replace H := bn_ H
    obtain ⟨⟨aT, aU, aV, aW, aX, aY, dC, dD⟩, gt, H⟩ := H
    try dsimp only at H
    obtain ⟨rfl, rfl, rfl, rfl, rfl, rfl, rfl, rfl⟩ := ij8_ H
    have gX := ns_ ak
    have gY := ns_ an
    have ej := cells6 c.out
    obtain ⟨c3, dc, d8⟩ := Kd.V_slice GA.out
    subst d8
    go_wp2_with (first | ((with_reducible refine gate_callee (f := 111) rfl ?_); refine goesL_ (some 50) rfl rfl Tryz.func111 (by kernel_rfl) rfl #[.agg #[.int .i64 u, .int .i64 x, .slice c3 ah.length dc, .int .i64 b, .bool false, .bool y], errW (.slice none 0 0) (some (Er.num 10))] rfl ag_ ?_; (refine (edit_Deny.calls u x _ _ ah b false y (some (Er.num 10)) _ _ ([] : List (S206)) aT aU aV aW aX aY dC dD _ ?side1 ?side2 ?side3 ?side4 gt.out).mono ?_); (case side1 => repeat (first | exact (Kd.V_reads' GA.out).2.2 | (with_reducible apply pC))); (case side2 => exact (Kd.V_reads' GA.out).2.1); (case side3 => exact Kd.C_nil _ _); (case side4 => exact Nat.le_refl _); rintro e hS ⟨eh, hC, rfl, ai, ba, hb⟩; refine ⟨_, rfl, ?_⟩; replace GA := Z (Kd.V_elder' (vV GA.out) (Kd.R_base ai) hb); have bp := Z (Kd.R_lower (Kd.R_new' (Kd.R_newM (M := fun k_ => (w.heap.size ≤ k_)) (Kd.R_mono (ok' := fun k_ => True) ai (fun _ hk_ => trivial)) (below_size bl_) (fun k_ h_ => h_)) (Kd.R_lt (by (with_reducible repeat apply pR); exact GB.out))) (below_size bl_)); have dK := Z (Kd.V_lower (Kd.V_mono (ok' := fun k_ => (af k_ ∨ w.heap.size ≤ k_) ∧ some k_ ≠ (eh : Value).ownBlock ∧ some k_ ≠ (GD : Value).ownBlock ∧ k_ ≠ E ∧ k_ ≠ d ∧ k_ ≠ a) ba (fun k_ hk_ => ⟨(.inr (Nat.le_trans (below_size bl_) hk_.1)), hk_.2, (Kd.fresh' (Kd.R_lt (by (with_reducible repeat apply pR); exact GB.out)) k_ hk_.1), (Kd.freshB (g := E) (o := .cells #[.int .i64 u, .int .i64 x, .slice c3 ah.length dc, .int .i64 b, .bool false, .bool y] 24 (0, 0)) (vK c.out) k_ hk_.1), (Kd.freshB (g := d) (o := .cells zS_ 24 (0, 0)) (vK l.out) k_ hk_.1), (Kd.freshB (g := a) (o := .cells #[.int .i64 z, .int .i64 A, GD, .int .i64 F, .bool B, .bool C] 24 (0, 0)) (vK s.out) k_ hk_.1)⟩)) (below_size bl_)); replace GB := Z (Kd.R_elder' (by (with_reducible repeat apply pR); exact GB.out) (Kd.R_base ai) hb); replace c := kb' c hb; replace l := kb' l hb; replace s := kb' s hb; replace HB := bs_ hb; (try clear hb); (try clear hk); (try clear ai); (try clear ba); (try simp only [errW_none, errW_some]); have gZ := ns_ am; have ep := cells6 l.out; obtain ⟨bc, bi, d9⟩ := Kd.R_slice bp.out; subst d9))
    refine rc2_ (put6 l.out) Tryz.underlying24 ?_
    exact ⟨_, _, er_, Kd.V_mono (Kd.R_V (by (with_reducible repeat apply pR); exact Kd.R_mono (f6R d (Kd.R_types bp.out l.out (by decide)) im_) (fun _ hk => hk.1.1.1))) (fun k_ hk => by first | exact ⟨(.inr (hk.1)), hk.2⟩ | exact (.inr (hk))), by (with_reducible repeat apply pV); exact Kd.V_mono (f6V d (Kd.V_mono dK.out (fun k_ hk => (⟨hk, hk.2.2.2.2.1⟩ : _ ∧ k_ ≠ d))) im_) im_, bl_⟩
   replace br := Bool.eq_false_iff.mpr br
   subst br
   rw [iF_] at H
   obtain ⟨bs, H⟩ := gt_ H
   have gR := decide_eq_true bs
   clear bs
   obtain ⟨bt, H⟩ := gt_ H
   have gS := decide_eq_true bt
   clear bt
   obtain ⟨aA, aO⟩ : ∃ y_ : List (S55), y_ = (q.set (b : Int).toNat (⟨false, (⟨false, false, 0, false⟩ : S53), a1⟩ : S55)) := ⟨_, rfl⟩
   replace H : ((edit_onward.f bk z A aA F B C).bind fun az => (some (z, A, aA, az, B, C, none, ([] : List (S206))))) = some (r1, r2, r3, r4, r5, r6, r7, r8) := by first | (rw [aO]; with_reducible exact H) | (have c4 := (Option.bind_some _ _).symm.trans H; rw [aO]; with_reducible exact c4) | (have c4 := (Option.bind_some _ _).symm.trans H; with_reducible exact c4) | with_reducible exact H | (rw [aO]; exact H) | exact H
   have dM := Z aO
   clear aO
   replace H := bn_ H
   obtain ⟨az, gu, H⟩ := H
   obtain ⟨rfl, rfl, rfl, rfl, rfl, rfl, rfl, rfl⟩ := ij8_ H
   have g0 := ns_ an
   have g1 := ns_ am
   have ev := cells6 s.out
   have g2 := ns_ ak
   have eC := cells6 c.out
   have p51 : 0 ≤ (b : Int) := od_
   have dz : (b : Int) < ((q.length : Int) : Int) := od_
   obtain ⟨X, ay, de, df, ec, hs, da⟩ := Kd.R_form GB.out (by omega)
   (first | cases de | (injection de with ea_ en_ ec_; (first | subst ea_ | (injection ea_ with ea_; subst ea_)); subst ec_; clear en_))
   have aQ := Z df
   have hl := Z da
   clear df ec da
   obtain ⟨hp, dN, dg, aG, aH⟩ := Kd.R_elem GB.out z55 (b : Int) p51 dz
   obtain rfl := k55_openM dg
   have gF := ce_ aG
   have gz := cf_ aH
   clear dN aG aH dg
   replace p51 := eq_true p51
   replace dz := eq_true dz
   have db := Z (show Kd.R k55 55 wc w.heap.size (fun k_ => (w.heap.size ≤ k_)) (.slice (some ⟨X, 0, none⟩) q.length ay) q from (by (with_reducible repeat apply pR); exact GB.out))
   obtain ⟨hq, bu, dh, aD, aI⟩ := Kd.R_elem db.out z55 (b : Int) (od_) (by have h_ : (b : Int) < ((q.length : Int) : Int) := od_; first | exact h_ | (have e_ := (Kd.R_reads' GB.out).1; omega) | simpa using h_)
   obtain rfl := k55_openM dh
   have bf := Kd.R_seg db.out (b : Int) (od_) (by have h_ : (b : Int) < ((q.length : Int) : Int) := od_; first | exact h_ | (have e_ := (Kd.R_reads' GB.out).1; omega) | simpa using h_) (seg := [.bool false, .bool false, .bool false, .int .i64 0, .bool false, .int .u8 a1]) (j := 0) bu aD (show 6 ≤ 6 from by decide) (x' := (⟨false, (⟨false, false, 0, false⟩ : S53), a1⟩ : S55)) (k55_mkM _ _ _ (⟨false, (⟨false, false, 0, false⟩ : S53), a1⟩ : S55) ) (fun _ hk => hk)
   have dp := aD 0 _ rfl
   (try simp only [show (k55).sz = 6 from rfl, Nat.mul_one, Nat.add_zero] at dp)
   have di := aI 0
   (try simp only [show (k55).sz = 6 from rfl, Nat.mul_one, Nat.add_zero] at di)
   have dq := aD 1 _ rfl
   (try simp only [show (k55).sz = 6 from rfl, Nat.mul_one, Nat.add_zero] at dq)
   have dj := aI 1
   (try simp only [show (k55).sz = 6 from rfl, Nat.mul_one, Nat.add_zero] at dj)
   have dr := aD 2 _ rfl
   (try simp only [show (k55).sz = 6 from rfl, Nat.mul_one, Nat.add_zero] at dr)
   have dk := aI 2
   (try simp only [show (k55).sz = 6 from rfl, Nat.mul_one, Nat.add_zero] at dk)
   have dt := aD 3 _ rfl
   (try simp only [show (k55).sz = 6 from rfl, Nat.mul_one, Nat.add_zero] at dt)
   have dl := aI 3
   (try simp only [show (k55).sz = 6 from rfl, Nat.mul_one, Nat.add_zero] at dl)
   have du := aD 4 _ rfl
   (try simp only [show (k55).sz = 6 from rfl, Nat.mul_one, Nat.add_zero] at du)
   have dm := aI 4
   (try simp only [show (k55).sz = 6 from rfl, Nat.mul_one, Nat.add_zero] at dm)
   have dv := aD 5 _ rfl
   (try simp only [show (k55).sz = 6 from rfl, Nat.mul_one, Nat.add_zero] at dv)
   have dn := aI 5
   (try simp only [show (k55).sz = 6 from rfl, Nat.mul_one, Nat.add_zero] at dn)
   clear bu aD aI dh
   go_wp2_with (first | ((with_reducible refine gate_store (t := 55) (p := 59) rfl ?_); refine sx_ 55 59 ((((((wc.setCell ⟨X, (b : Int).toNat * 6, none⟩ (.bool false)).setCell ⟨X, (b : Int).toNat * 6 + 1, none⟩ (.bool false)).setCell ⟨X, (b : Int).toNat * 6 + 2, none⟩ (.bool false)).setCell ⟨X, (b : Int).toNat * 6 + 3, none⟩ (.int .i64 0)).setCell ⟨X, (b : Int).toNat * 6 + 4, none⟩ (.bool false)).setCell ⟨X, (b : Int).toNat * 6 + 5, none⟩ (.int .u8 a1)) ?_; intro dG hw; have hg : wc.grownBy dG (some X) := (by rw [hw]; exact bf.2); have hp_ : Kd.R k55 55 dG w.heap.size (fun k_ => (w.heap.size ≤ k_)) (.slice (some ⟨X, 0, none⟩) q.length ay) aA := (by rw [hw, dM.out]; exact bf.1); clear bf; replace GA := Z (Kd.V_afterv (v := (.slice (some ⟨X, 0, none⟩) q.length ay)) (v1 := (.slice (some ⟨X, 0, none⟩) q.length ay)) (ok := (fun k_ => (af k_ ∨ w.heap.size ≤ k_) ∧ k_ ≠ E ∧ k_ ≠ d ∧ k_ ≠ a)) (by (with_reducible repeat apply pV); exact Kd.V_mono GA.out (fun _ hk => ⟨⟨hk.1, ⟨hk.2.2.1, ⟨hk.2.2.2.1, hk.2.2.2.2⟩⟩⟩, hk.2.1⟩)) hg (.inl rfl)); replace c := gw_ ⟨vK c.out⟩ hg (Kd.R_ne GB.out c.out (by decide)); replace l := gw_ ⟨vK l.out⟩ hg (Kd.R_ne GB.out l.out (by decide)); replace s := gw_ ⟨vK s.out⟩ hg (Kd.R_ne GB.out s.out (by decide)); replace GB := Z (hp_); replace HB := Z ((by rw [hw]; exact below_set (below_set (below_set (below_set (below_set (below_set (HB.out) aQ.out) aQ.out) aQ.out) aQ.out) aQ.out) aQ.out : Below w.heap.size w dG)); clear hg hw hp_; have eI := cells6 s.out) | ((with_reducible refine gate_callee (f := 116) rfl ?_); refine goesL_ (some 61) rfl rfl Tryz.func116 (by kernel_rfl) rfl #[.agg #[.int .i64 z, .int .i64 A, .slice (some ⟨X, 0, none⟩) aA.length ay, .int .i64 F, .bool B, .bool C]] rfl (by (try simp only [List.map_toArray, List.map_cons, List.map_nil]); first | done | (rw [show aA.length = q.length from (Kd.R_reads' GB.out).1.symm] <;> rfl) | rfl | (simp only [List.length_drop, List.length_take]; rfl)) ?_; (with_reducible refine (edit_onward.calls bk z A _ _ aA F B C az _ ?side1 ?side2 gu.out).mono ?_); (case side1 => repeat (first | exact (Kd.R_reads' GB.out).2.2 | (with_reducible apply pC))); (case side2 => rw [show aA.length = q.length from (Kd.R_reads' GB.out).1.symm]; exact (Kd.R_reads' GB.out).2.1); rintro e hT ⟨rfl, hb⟩; refine ⟨_, rfl, ?_⟩; replace GA := vb' GA hb; replace GB := rb' GB hb; replace c := kb' c hb; replace l := kb' l hb; replace s := kb' s hb; replace HB := bs_ hb; (try clear hb); (try clear hk); have eO := cells6 s.out; have eU := cells6 l.out))
   refine bodyPost_ret (results_ct rfl _ _ d 24 #[.int .i64 z, .int .i64 A, .slice (some ⟨X, 0, none⟩) q.length ay, .int .i64 az, .bool B, .bool C] (0, 0) _ rfl (put6 (by (with_reducible repeat apply pK); refine blk_far ?_ am.out _; (with_reducible repeat apply pK); exact l.out)) Tryz.underlying24 rfl (by kernel_rfl)) rfl ?_
   exact ⟨_, _, er_, Kd.V_mono (Kd.R_V (by (with_reducible repeat apply pR); exact Kd.R_mono (f6R d (Kd.R_far (p := ⟨a, 3, none⟩) (Kd.R_types (Kd.R_types GB.out s.out (by decide)) l.out (by decide)) im_ (.int .i64 az)) im_) (fun _ hk => hk.1.1))) (fun k_ hk => by first | exact ⟨(.inr (hk.1)), hk.2⟩ | exact (.inr (hk))), Kd.R_V (Kd.R_nil _ _ _ 0 _), bl_⟩
end Go.Proofs.YtjpedimndkibnaaGreatDoor.P
