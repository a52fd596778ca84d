/- pp.py and press2.py (wip/tools) wrote this text. -/
import Derived.Test.YtjpedimndkibnaaGreatDoorPx0
import Derived.Test.YtjpedimndkibnaaGreatDoorPxS
import Derived.Test.YtjpedimndkibnaaGreatDoorPxT
import Derived.Test.YtjpedimndkibnaaGreatDoorPx6
import Derived.Test.YtjpedimndkibnaaGreatDoorPx7
namespace Go.Proofs.YtjpedimndkibnaaGreatDoor.P
open Go.RowKit Go.Proofs.YtjpedimndkibnaaGreatDoorW.PrintWords Go.Proofs.YtjpedimndkibnaaGreatDoorW.PrintLast Go.Proofs.YtjpedimndkibnaaGreatDoorW.PrintMore
attribute [local go_sem] max2_int min2_int max_two min_two max_three min_three max_four min_four
attribute [local go_sem] Instr.field asAgg
set_option linter.unusedVariables false
set_option linter.unusedSimpArgs false
set_option maxHeartbeats 8000000
set_option maxRecDepth 100000

/-! ### edit_onward: function 116 -/
def edit_onward.j0 : Nat → Int → Bool → Int → Int → List (S55) → Int → Bool → Bool → Option (Int)
 | 0, _, _, _, _, _, _, _, _ => none
 | k + 1, l, m, a, b, c, d, e, g => if m = true then ((field_Next.f a b c d e g l).bind fun h => (if h ≥ 0 then (some h) else ((grid_On.f a b c d e g l 1).bind fun i => (some i)))) else ((grid_On.f a b c d e g l 1).bind fun j => (some j))
def edit_onward.f (k : Nat) (d e : Int) (b : List (S55)) (c : Int) (g h : Bool) : Option (Int) := (grid_On.f d e b c g h c 1).bind fun a => (if 0 ≤ a then (if a < (b.length : Int) then (if ((rd_T55 b a).f0 = true) then (if (rd_T55 b a).f1.f0 = true then (edit_onward.j0 k a ((rd_T55 b a).f1.f1) d e b c g h) else (edit_onward.j0 k a false d e b c g h)) else (some a)) else (none)) else (none))
theorem edit_onward.mono_l : ∀ k, (∀ b c d e f g i j, LeO (edit_onward.j0 k b c d e f g i j) (edit_onward.j0 (k + 1) b c d e f g i j))
 | 0 => fun _ _ _ _ _ _ _ _ r h => by simp [edit_onward.j0] at h
 | k + 1 => by
  have a := edit_onward.mono_l k
  ·intro b c d e f g i j
   unfold edit_onward.j0
   repeat' first
   | (with_reducible exact a _ _ _ _ _ _ _ _)
   | (with_reducible exact LeO.refl _)
   | (with_reducible exact LeO.none _)
   | (with_reducible refine LeO.ite ?_ ?_)
   | (with_reducible refine LeO.bind ?_ (fun _ => ?_))
   | exact a _ _ _ _ _ _ _ _
   | exact LeO.none _
   | refine LeO.ite ?_ ?_
   | refine LeO.bind ?_ (fun _ => ?_)
theorem edit_onward.mono : ∀ a0 a1 b c a4 d k, LeO (edit_onward.f k a0 a1 b c a4 d) (edit_onward.f (k + 1) a0 a1 b c a4 d) := by
 intro a0 a1 b c a4 d k
 have a := edit_onward.mono_l k
 unfold edit_onward.f
 repeat' first
   | (with_reducible exact a _ _ _ _ _ _ _ _)
   | (with_reducible exact LeO.refl _)
   | (with_reducible exact LeO.none _)
   | (with_reducible refine LeO.ite ?_ ?_)
   | (with_reducible refine LeO.bind ?_ (fun _ => ?_))
   | exact a _ _ _ _ _ _ _ _
   | exact LeO.none _
   | refine LeO.ite ?_ ?_
   | refine LeO.bind ?_ (fun _ => ?_)
theorem edit_onward.calls (k : Nat) (g i : Int) (P : Option Addr) (B : Nat) (b : List (S55)) (d : Int) (j l : Bool) (r : Int) (w : World) (ag : Kd.C k55 w P b.length b) (af : b.length ≤ B) (h : edit_onward.f k g i b d j l = some r) :
  Calls Tryz.prog 116 #[.agg #[.int .i64 g, .int .i64 i, .slice P b.length B, .int .i64 d, .bool j, .bool l]] w fun e w' => e = .returned (.int .i64 r) ∧ Below w.heap.size w w' := by
 have dg := Tryz.underlying24
 have dh := Tryz.underlying55
 have D := Z ag
 have K := Z af
 clear ag af
 have HB := Z (Below.refl w.heap.size w)
 unfold edit_onward.f at h
 have H := h
 clear h
 replace H := bn_ H
 obtain ⟨a, A2, H⟩ := H
 obtain ⟨c3, H⟩ := gt_ H
 have bu := decide_eq_true c3
 clear c3
 obtain ⟨c4, H⟩ := gt_ H
 have bv := decide_eq_true c4
 clear c4
 obtain ⟨bt, ad⟩ : ∃ b_ : Bool, b_ = ((rd_T55 b a).f0) := ⟨_, rfl⟩
 replace H : (if (bt = true) then (if (rd_T55 b a).f1.f0 = true then (edit_onward.j0 k a ((rd_T55 b a).f1.f1) g i b d j l) else (edit_onward.j0 k a false g i b d j l)) else (some a)) = some r := by rw [← ad] at H; exact H
 have E := Z ad
 clear ad
 by_cases c6 : (bt = true)
 rotate_left
 ·replace c6 := Bool.eq_false_iff.mpr c6
  subst c6
  rw [iF_] at H
  obtain rfl := Option.some.inj H
  go_enter Tryz.func116, Tryz.ntmps116
  go_wp2_with (first | ((with_reducible refine gD_ 1 rfl ?_); refine bx_ 1 24 #[.int .i64 g, .int .i64 i, .slice P b.length B, .int .i64 d, .bool j, .bool l] ?_; intro M hg dy hbox hb; have c := Z hbox; have bo := ln' w hg; replace HB := bs_ hb; clear hb hbox hg; have bV := cells6 c.out) | ((with_reducible refine gF_ 125 rfl ?_); refine gd_ (some 9) Tryz.func125 (grid_On.calls g i _ _ b d j l d 1 a _ (cB_ D HB) K.out A2.out) ?_; rintro e dz ⟨rfl, hb⟩; refine ⟨_, rfl, ?_⟩; replace c := kb' c hb; replace HB := bs_ hb; (try clear hb); have b1 := cells6 c.out; have I : 0 ≤ (a : Int) := od_; have J : a < (b.length : Int) := od_; obtain ⟨L, ac, s, u, v, z, x, A⟩ := at_T55 D.out a I J; (try rw [← E.out] at s); (try rw [← E.out] at u); (try rw [← E.out] at v); (try rw [← E.out] at x); cases ac; replace s := (HB.out.cell (bk_ w _ s)).trans s; replace u := (HB.out.cell (bk_ w _ u)).trans u; replace v := (HB.out.cell (bk_ w _ v)).trans v; replace z := (HB.out.cell (bk_ w _ z)).trans z; replace x := (HB.out.cell (bk_ w _ x)).trans x; replace A := (HB.out.cell (bk_ w _ A)).trans A; replace I := eq_true I; replace J := eq_true J) | ((with_reducible refine gD_ 4 rfl ?_); refine bx_ 4 55 #[.bool false, .bool false, .bool false, .int .i64 0, .bool false, .int .u8 0] ?_; intro O hg dA hbox hb; have m := Z hbox; have bp := ln' w hg; replace HB := bs_ hb; have n := nl' c hg; replace c := kb' c hb; clear hb hbox hg; have c8 := ns_ n; have b7 := cells6 m.out))
  go_ret
  exact ⟨er_, bl_⟩
 subst c6
 rw [if_pos rfl] at H
 have a8 := Z H
 clear H
 go_enter Tryz.func116, Tryz.ntmps116
 go_upto_region 5 with (first | ((with_reducible refine gD_ 1 rfl ?_); refine bx_ 1 24 #[.int .i64 g, .int .i64 i, .slice P b.length B, .int .i64 d, .bool j, .bool l] ?_; intro M hg w8 hbox hb; have c := Z hbox; have bo := ln' w hg; replace HB := bs_ hb; clear hb hbox hg; have ba := cells6 c.out) | ((with_reducible refine gF_ 125 rfl ?_); refine gd_ (some 9) Tryz.func125 (grid_On.calls g i _ _ b d j l d 1 a _ (cB_ D HB) K.out A2.out) ?_; rintro e ds ⟨rfl, hb⟩; refine ⟨_, rfl, ?_⟩; replace c := kb' c hb; replace HB := bs_ hb; (try clear hb); have ah := cells6 c.out; have I : 0 ≤ (a : Int) := od_; have J : a < (b.length : Int) := od_; obtain ⟨L, ac, s, u, v, z, x, A⟩ := at_T55 D.out a I J; (try rw [← E.out] at s); (try rw [← E.out] at u); (try rw [← E.out] at v); (try rw [← E.out] at x); cases ac; replace s := (HB.out.cell (bk_ w _ s)).trans s; replace u := (HB.out.cell (bk_ w _ u)).trans u; replace v := (HB.out.cell (bk_ w _ v)).trans v; replace z := (HB.out.cell (bk_ w _ z)).trans z; replace x := (HB.out.cell (bk_ w _ x)).trans x; replace A := (HB.out.cell (bk_ w _ A)).trans A; replace I := eq_true I; replace J := eq_true J) | ((with_reducible refine gD_ 4 rfl ?_); refine bx_ 4 55 #[.bool false, .bool false, .bool false, .int .i64 0, .bool false, .int .u8 0] ?_; intro O hg dt hbox hb; have m := Z hbox; have bp := ln' w hg; replace HB := bs_ hb; have n := nl' c hg; replace c := kb' c hb; clear hb hbox hg; have cY := ns_ n; have an := cells6 m.out))
 (try simp only [Act.put, sA, sB, sC])
 go_cut [26] (fun cX wc => ∃ (kq : Nat) (R : Bool), cX = .bool R ∧ Aside0 (edit_onward.j0 kq a R g i b d j l = some r) ∧ Aside0 (kq ≤ k) ∧ Aside0 (wc.heap[M]? = some (.cells #[.int .i64 g, .int .i64 i, (.slice (some L) b.length B), .int .i64 d, .bool j, .bool l] 24 (0, 0))) ∧ Aside0 (wc.heap[O]? = some (.cells #[.bool true, .bool ((rd_T55 b a).f1.f0), .bool ((rd_T55 b a).f1.f1), .int .i64 ((rd_T55 b a).f1.f2), .bool ((rd_T55 b a).f1.f3), .int .u8 ((rd_T55 b a).f2)] 55 (0, 0))) ∧ Aside0 (Below w.heap.size w wc))
 case first =>
  have H := a8.out
  clear a8
  obtain ⟨a9, U⟩ : ∃ b_ : Bool, b_ = ((rd_T55 b a).f1.f0) := ⟨_, rfl⟩
  replace H : (if a9 = true then (edit_onward.j0 k a ((rd_T55 b a).f1.f1) g i b d j l) else (edit_onward.j0 k a false g i b d j l)) = some r := by rw [← U] at H; exact H
  have T := Z U
  clear U
  (try rw [← T.out])
  by_cases W : a9 = true
  ·subst W
   rw [if_pos rfl] at H
   have H' := Z H
   clear H
   have cZ := ns_ n
   have av := cells6 m.out
   go_wp2
   go_meet
   case rel => exact ⟨_, ((rd_T55 b a).f1.f1), (dn_), H', ⟨by first | omega | exact Nat.le_refl _⟩, ⟨blk_off c.out n.out off2_⟩, ⟨by first | exact put6 m.out | (simp only [← T.out, ← E.out]; exact put6 m.out)⟩, ⟨bl_⟩⟩
  replace W := Bool.eq_false_iff.mpr W
  subst W
  rw [iF_] at H
  have H' := Z H
  clear H
  have c0 := ns_ n
  have aB := cells6 m.out
  go_wp2
  go_meet
  case rel => exact ⟨_, (false), (dn_), H', ⟨by first | omega | exact Nat.le_refl _⟩, ⟨blk_off c.out n.out off2_⟩, ⟨by first | exact put6 m.out | (simp only [← T.out, ← E.out]; exact put6 m.out)⟩, ⟨bl_⟩⟩
 clear a8
 try clear c3
 try clear bu
 try clear c4
 try clear bv
 try clear c6
 try clear ah
 try clear an
 try clear ba
 try clear s
 try clear u
 try clear v
 try clear z
 try clear x
 try clear A
 try clear I
 try clear J
 obtain ⟨kq, R, rfl, HA, di, c, m, HB⟩ := hcut
 cases kq with
 | zero => exact absurd HA.out (by simp [edit_onward.j0])
 | succ dq =>
  have H := HA.out
  clear HA
  simp only [edit_onward.j0] at H
  by_cases ae : R = true
  ·subst ae
   rw [if_pos rfl] at H
   replace H := bn_ H
   obtain ⟨F, bs, H⟩ := H
   by_cases S : F ≥ 0
   ·rw [if_pos S] at H
    have bq : decide (0 ≤ F) = true := decide_eq_true S
    clear S
    obtain rfl := Option.some.inj H
    have c2 := ns_ n
    have bw := cells6 c.out
    go_wp2_with (first | ((with_reducible refine gF_ 54 rfl ?_); refine gd_ (some 29) Tryz.func54 (field_Next.calls g i _ _ b d j l a F _ (cB_ D HB) K.out bs.out) ?_; rintro e du ⟨rfl, hb⟩; refine ⟨_, rfl, ?_⟩; replace c := kb' c hb; replace m := kb' m hb; replace HB := bs_ hb; (try clear hb)))
    go_ret
    exact ⟨er_, bl_⟩
   rw [if_neg S] at H
   have bq : decide (0 ≤ F) = false := decide_eq_false S
   clear S
   replace H := bn_ H
   obtain ⟨Q, cV, H⟩ := H
   obtain rfl := Option.some.inj H
   have c5 := ns_ n
   have bD := cells6 c.out
   go_wp2_with (first | ((with_reducible refine gF_ 54 rfl ?_); refine gd_ (some 29) Tryz.func54 (field_Next.calls g i _ _ b d j l a F _ (cB_ D HB) K.out bs.out) ?_; rintro e dv ⟨rfl, hb⟩; refine ⟨_, rfl, ?_⟩; replace c := kb' c hb; replace m := kb' m hb; replace HB := bs_ hb; (try clear hb); have bJ := cells6 c.out) | ((with_reducible refine gF_ 125 rfl ?_); refine gd_ (some 35) Tryz.func125 (grid_On.calls g i _ _ b d j l a 1 Q _ (cB_ D HB) K.out cV.out) ?_; rintro e dw ⟨rfl, hb⟩; refine ⟨_, rfl, ?_⟩; replace c := kb' c hb; replace m := kb' m hb; replace HB := bs_ hb; (try clear hb)))
   go_ret
   exact ⟨er_, bl_⟩
  replace ae := Bool.eq_false_iff.mpr ae
  subst ae
  rw [iF_] at H
  replace H := bn_ H
  obtain ⟨V, cW, H⟩ := H
  obtain rfl := Option.some.inj H
  have c7 := ns_ n
  have bP := cells6 c.out
  go_wp2_with (first | ((with_reducible refine gF_ 125 rfl ?_); refine gd_ (some 35) Tryz.func125 (grid_On.calls g i _ _ b d j l a 1 V _ (cB_ D HB) K.out cW.out) ?_; rintro e dx ⟨rfl, hb⟩; refine ⟨_, rfl, ?_⟩; replace c := kb' c hb; replace m := kb' m hb; replace HB := bs_ hb; (try clear hb)))
  go_ret
  exact ⟨er_, bl_⟩

end Go.Proofs.YtjpedimndkibnaaGreatDoor.P
