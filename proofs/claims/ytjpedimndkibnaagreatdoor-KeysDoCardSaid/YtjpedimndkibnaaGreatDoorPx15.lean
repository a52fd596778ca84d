/- pp.py and press2.py (wip/tools) wrote this text. -/
import Derived.Test.YtjpedimndkibnaaGreatDoorPx0
import Derived.Test.YtjpedimndkibnaaGreatDoorPxS
import Derived.Test.YtjpedimndkibnaaGreatDoorPxT
import Derived.Test.YtjpedimndkibnaaGreatDoorPx6
import Derived.Test.YtjpedimndkibnaaGreatDoorPx7
import Derived.Test.YtjpedimndkibnaaGreatDoorPx14
namespace Go.Proofs.YtjpedimndkibnaaGreatDoor.P
open Go.RowKit Go.Proofs.YtjpedimndkibnaaGreatDoorW.PrintWords Go.Proofs.YtjpedimndkibnaaGreatDoorW.PrintLast Go.Proofs.YtjpedimndkibnaaGreatDoorW.PrintMore
attribute [local go_sem] max2_int min2_int max_two min_two max_three min_three max_four min_four
attribute [local go_sem] Instr.field asAgg
set_option linter.unusedVariables false
set_option linter.unusedSimpArgs false
set_option maxHeartbeats 8000000
set_option maxRecDepth 100000

/-! ### keys_dup: function 74 -/
def keys_dup.f (k : Nat) (c d : Int) (h : List (S55)) (b : Int) (e g : Bool) : Option (Int × Int × (List (S55)) × Int × Bool × Bool × Option Er × (List (S206))) := (edit_Type.f k c d h b e g 28).bind fun a => (if a.2.2.2.2.2.2.1.isNone = true then ((field_Next.f a.1 a.2.1 a.2.2.1 a.2.2.2.1 a.2.2.2.2.1 a.2.2.2.2.2.1 b).bind fun i => (some (a.1, a.2.1, a.2.2.1, mx 0 i, a.2.2.2.2.1, a.2.2.2.2.2.1, none, ([] : List (S206))))) else (some (a.1, a.2.1, a.2.2.1, a.2.2.2.1, a.2.2.2.2.1, a.2.2.2.2.2.1, some (a.2.2.2.2.2.2.1.getD ez), a.2.2.2.2.2.2.2)))
theorem keys_dup.mono : ∀ a0 a1 a b a4 c k, LeO (keys_dup.f k a0 a1 a b a4 c) (keys_dup.f (k + 1) a0 a1 a b a4 c) := by
 intro a0 a1 a b a4 c k
 unfold keys_dup.f
 repeat' first
   | (with_reducible exact edit_Type.mono _ _ _ _ _ _ _ _)
   | (with_reducible exact LeO.refl _)
   | (with_reducible exact LeO.none _)
   | (with_reducible refine LeO.ite ?_ ?_)
   | (with_reducible refine LeO.bind ?_ (fun _ => ?_))
   | exact edit_Type.mono _ _ _ _ _ _ _ _
   | exact LeO.none _
   | refine LeO.ite ?_ ?_
   | refine LeO.bind ?_ (fun _ => ?_)
theorem keys_dup.calls (k : Nat) (R S : Int) (J : Nat → Prop) (X : Option Addr) (ae : Nat) (K : List (S55)) (F : Int) (T U : Bool) (r1 r2 : Int) (r3 : List (S55)) (r4 : Int) (r5 r6 : Bool) (r7 : Option Er) (r8 : List (S206)) (w : World) (aI : Kd.V k55 55 w w.heap.size (fun k_ => J k_) (.slice X K.length ae) K) (h : keys_dup.f k R S K F T U = some (r1, r2, r3, r4, r5, r6, r7, r8)) :
  Calls Tryz.prog 74 #[.agg #[.int .i64 R, .int .i64 S, .slice X K.length ae, .int .i64 F, .bool T, .bool U]] w fun e w' => ∃ aM aN : Value, e = .returned (.tuple #[.agg #[.int .i64 r1, .int .i64 r2, aM, .int .i64 r4, .bool r5, .bool r6], errW aN r7]) ∧ Kd.V k55 55 w' w.heap.size (fun k_ => (J k_ ∨ w.heap.size ≤ k_)) aM r3 ∧ Kd.V k206 206 w' w.heap.size (fun k_ => (J k_ ∨ w.heap.size ≤ k_)) aN r8 ∧ Below w.heap.size w w' := by
 have cJ := Tryz.underlying24
 have cK := Tryz.underlying34
 have cL := Tryz.underlying69
 have i := Z (show Kd.V k55 55 w w.heap.size (fun k_ => (J k_ ∨ w.heap.size ≤ k_)) (.slice X K.length ae) K from Kd.V_mono aI (fun k_ hk => .inl hk))
 have HB := Z (Below.refl w.heap.size w)
 unfold keys_dup.f at h
 have H := h
 clear h
 replace H := bn_ H
 obtain ⟨⟨l, m, q, y, s, v, aB, am⟩, A2, H⟩ := H
 try dsimp only at H
 rcases aB with _ | aA
 ·rw [if_pos (show (none : Option Er).isNone = true by rfl)] at H
  try dsimp only [Option.getD_some] at H
  try simp only [errW_none, errW_some]
  replace H := bn_ H
  obtain ⟨O, A3, H⟩ := H
  obtain ⟨ai, ah⟩ : ∃ j_ : Int, (mx 0 O) = j_ := ⟨_, rfl⟩
  replace H : (some (l, m, q, ai, s, v, none, ([] : List (S206)))) = some (r1, r2, r3, r4, r5, r6, r7, r8) := by first | (rw [ah] at H; exact H) | (simp only [ah] at H ⊢; exact H)
  (try rw [ah] at A2)
  (try rw [ah] at A3)
  (try (have cv : 0 ≤ ai := by (rw [← ah]; unfold mx; (repeat' split) <;> omega)))
  (try (have cw : 0 ≤ ai := by omega))
  have cu : (if 0 < O then O else 0) = ai := ah
  obtain ⟨rfl, rfl, rfl, rfl, rfl, rfl, rfl, rfl⟩ := ij8_ H
  go_enter Tryz.func74, Tryz.ntmps74
  go_wp2_with (first | ((with_reducible refine gD_ 1 rfl ?_); refine bx_ 1 24 #[.int .i64 R, .int .i64 S, .slice X K.length ae, .int .i64 F, .bool T, .bool U] ?_; intro E hg w5 hbox hb; replace i := ve' i hg hb; have b := Z hbox; have aF := ln' w hg; replace HB := bs_ hb; clear hb hbox hg) | ((with_reducible refine gD_ 2 rfl ?_); refine bx_ 2 24 zS_ ?_; intro d hg w6 hbox hb; replace i := ve' i hg hb; have j := Z hbox; have aG := ln' w hg; replace HB := bs_ hb; have aa := nl' b hg; replace b := kb' b hb; clear hb hbox hg; have cH := ns_ aa; have ch := cells6 b.out) | ((with_reducible refine gF_ 73 rfl ?_); refine gd_ (some 8) Tryz.func73 (edit_Type.calls k R S (fun k_ => (((J k_ ∨ w.heap.size ≤ k_) ∧ k_ ≠ E) ∧ k_ ≠ d)) _ _ K F T U 28 l m q y s v none am _ i.out A2.out) ?_; rintro e w9 ⟨aR, aS, rfl, an, ao, hb⟩; refine ⟨_, rfl, ?_⟩; replace i := vb' i hb; have x := Z (Kd.V_lower (Kd.V_mono (ok' := fun k_ => (J k_ ∨ w.heap.size ≤ k_) ∧ k_ ≠ E ∧ k_ ≠ d) an (fun k_ hk_ => hk_.elim (fun hs_ => ⟨hs_.1.1, hs_.1.2, hs_.2⟩) (fun hn_ => ⟨(ir_ hn_), (fb b.out k_ hn_), (fb j.out k_ hn_)⟩))) (below_size bl_)); have I := Z (Kd.V_lower (Kd.V_mono (ok' := fun k_ => (J k_ ∨ w.heap.size ≤ k_) ∧ k_ ≠ E ∧ k_ ≠ d) ao (fun k_ hk_ => hk_.elim (fun hs_ => ⟨hs_.1.1, hs_.1.2, hs_.2⟩) (fun hn_ => ⟨(ir_ hn_), (fb b.out k_ hn_), (fb j.out k_ hn_)⟩))) (below_size bl_)); replace b := kb' b hb; replace j := kb' j hb; replace HB := bs_ hb; (try clear hb); (try clear hk); (try clear an); (try clear ao); (try simp only [errW_none, errW_some])) | ((with_reducible refine gD_ 4 rfl ?_); refine bx_ 4 24 zS_ ?_; intro a hg cM hbox hb; replace i := ve' i hg hb; replace x := ve' x hg hb; replace I := ve' I hg hb; have W := Z hbox; have aH := ln' w hg; replace HB := bs_ hb; have P := nl' b hg; replace b := kb' b hb; have r := nl' j hg; replace j := kb' j hb; clear hb hbox hg; have cx := ns_ P; have cy := ns_ r; have aT := cells6 W.out; obtain ⟨M, L, aP⟩ := Kd.V_slice x.out; subst aP; have aZ := cells6 b.out) | ((with_reducible refine gF_ 54 rfl ?_); refine gd_ (some 18) Tryz.func54 (field_Next.calls l m _ _ q y s v F O _ ?side1 (vL_ x) A3.out) ?_; (case side1 => refine (Kd.V_reads' (e := 55) (base := w.heap.size) (ok := fun k_ => ((((J k_ ∨ w.heap.size ≤ k_)) ∧ (k_ ≠ E ∧ k_ ≠ d)) ∧ k_ ≠ a)) (n := q.length) (c := L) ?_).2.2; exact (by (with_reducible repeat apply pV); exact (Kd.V_mono (f6V a (Kd.V_mono x.out (fun k_ hk => (⟨hk, hk.2⟩ : _ ∧ k_ ≠ a))) (fun _ hk => hk.2)) (fun _ h_ => h_.1)))); rintro e cN ⟨rfl, hb⟩; refine ⟨_, rfl, ?_⟩; replace i := Z (Kd.V_below (by (with_reducible repeat apply pV); exact (Kd.V_mono (f6V a (Kd.V_mono i.out (fun k_ hk => (⟨hk, hk.2⟩ : _ ∧ k_ ≠ a))) (fun _ hk => hk.2)) (fun _ h_ => h_.1))) hb); replace x := Z (Kd.V_below (by (with_reducible repeat apply pV); exact (Kd.V_mono (f6V a (Kd.V_mono x.out (fun k_ hk => (⟨hk, hk.2⟩ : _ ∧ k_ ≠ a))) (fun _ hk => hk.2)) (fun _ h_ => h_.1))) hb); replace I := Z (Kd.V_below (by (with_reducible repeat apply pV); exact (Kd.V_mono (f6V a (Kd.V_mono I.out (fun k_ hk => (⟨hk, hk.2⟩ : _ ∧ k_ ≠ a))) (fun _ hk => hk.2)) (fun _ h_ => h_.1))) hb); replace b := Z (blk_below (g := E) (o := .cells #[.int .i64 R, .int .i64 S, .slice X K.length ae, .int .i64 F, .bool T, .bool U] 24 (0, 0)) (blk_off b.out P.out off2_) hb); replace j := Z (blk_below (g := d) (o := .cells zS_ 24 (0, 0)) (blk_off j.out r.out off2_) hb); replace W := Z (blk_below (g := a) (o := .cells #[.int .i64 l, .int .i64 m, .slice M q.length L, .int .i64 y, .bool s, .bool v] 24 (0, 0)) (put6 W.out) hb); replace HB := bs_ hb; (try clear hb); (try clear hk); have a5 := cells6 W.out; have bb := cells6 j.out))
  refine bodyPost_ret (results_ct rfl _ _ d 24 #[.int .i64 l, .int .i64 m, .slice M q.length L, .int .i64 ai, .bool s, .bool v] (0, 0) _ rfl (put6 (by (with_reducible repeat apply pK); refine blk_far ?_ r.out _; (with_reducible repeat apply pK); exact j.out)) Tryz.underlying24 rfl (by kernel_rfl)) rfl ?_
  exact ⟨_, _, by first | rfl | (simp [errW_none, errW_some] <;> rfl) | (simp only [← ah]; first | rfl | (simp [errW_none, errW_some] <;> rfl)) | (simp [*, errW_none, errW_some] <;> rfl), by (with_reducible repeat apply pV); exact Kd.V_mono (f6V d (Kd.V_far (p := ⟨a, 3, none⟩) (Kd.V_mono (Kd.V_mono x.out (fun k_ hk => (⟨hk, hk.2⟩ : _ ∧ k_ ≠ a))) (fun k_ hk => (⟨hk, hk.1.1.2.2⟩ : _ ∧ k_ ≠ d))) im_ (.int .i64 ai)) im_) im_, Kd.R_V (Kd.R_nil _ _ _ 0 _), bl_⟩
 rw [if_neg (show ¬ (some aA).isNone = true by simp)] at H
 try dsimp only [Option.getD_some] at H
 try simp only [errW_none, errW_some]
 obtain ⟨rfl, rfl, rfl, rfl, rfl, rfl, rfl, rfl⟩ := ij8_ H
 go_enter Tryz.func74, Tryz.ntmps74
 go_wp2_with (first | ((with_reducible refine gD_ 1 rfl ?_); refine bx_ 1 24 #[.int .i64 R, .int .i64 S, .slice X K.length ae, .int .i64 F, .bool T, .bool U] ?_; intro E hg cO hbox hb; replace i := ve' i hg hb; have b := Z hbox; have aF := ln' w hg; replace HB := bs_ hb; clear hb hbox hg) | ((with_reducible refine gD_ 2 rfl ?_); refine bx_ 2 24 zS_ ?_; intro d hg cP hbox hb; replace i := ve' i hg hb; have j := Z hbox; have aG := ln' w hg; replace HB := bs_ hb; have aa := nl' b hg; replace b := kb' b hb; clear hb hbox hg; have cz := ns_ aa; have bh := cells6 b.out) | ((with_reducible refine gF_ 73 rfl ?_); refine gd_ (some 8) Tryz.func73 (edit_Type.calls k R S (fun k_ => (((J k_ ∨ w.heap.size ≤ k_) ∧ k_ ≠ E) ∧ k_ ≠ d)) _ _ K F T U 28 l m q y s v (some aA) am _ i.out A2.out) ?_; rintro e cQ ⟨aR, aS, rfl, an, ao, hb⟩; refine ⟨_, rfl, ?_⟩; replace i := vb' i hb; have x := Z (Kd.V_lower (Kd.V_mono (ok' := fun k_ => (J k_ ∨ w.heap.size ≤ k_) ∧ k_ ≠ E ∧ k_ ≠ d) an (fun k_ hk_ => hk_.elim (fun hs_ => ⟨hs_.1.1, hs_.1.2, hs_.2⟩) (fun hn_ => ⟨(ir_ hn_), (fb b.out k_ hn_), (fb j.out k_ hn_)⟩))) (below_size bl_)); have I := Z (Kd.V_lower (Kd.V_mono (ok' := fun k_ => (J k_ ∨ w.heap.size ≤ k_) ∧ k_ ≠ E ∧ k_ ≠ d) ao (fun k_ hk_ => hk_.elim (fun hs_ => ⟨hs_.1.1, hs_.1.2, hs_.2⟩) (fun hn_ => ⟨(ir_ hn_), (fb b.out k_ hn_), (fb j.out k_ hn_)⟩))) (below_size bl_)); replace b := kb' b hb; replace j := kb' j hb; replace HB := bs_ hb; (try clear hb); (try clear hk); (try clear an); (try clear ao); (try simp only [errW_none, errW_some])) | ((with_reducible refine gD_ 4 rfl ?_); refine bx_ 4 24 zS_ ?_; intro a hg cR hbox hb; replace i := ve' i hg hb; replace x := ve' x hg hb; replace I := ve' I hg hb; have W := Z hbox; have aH := ln' w hg; replace HB := bs_ hb; have P := nl' b hg; replace b := kb' b hb; have r := nl' j hg; replace j := kb' j hb; clear hb hbox hg; have cA := ns_ P; have cB := ns_ r; have bn := cells6 W.out; obtain ⟨Y, af, aQ⟩ := Kd.V_slice x.out; subst aQ; have bt := cells6 j.out))
 refine bodyPost_ret (results_ct rfl _ _ d 24 #[.int .i64 l, .int .i64 m, .slice Y q.length af, .int .i64 y, .bool s, .bool v] (0, 0) _ rfl (put6 (by (with_reducible repeat apply pK); refine blk_far ?_ r.out _; (with_reducible repeat apply pK); refine blk_far ?_ r.out _; (with_reducible repeat apply pK); refine blk_far ?_ r.out _; (with_reducible repeat apply pK); refine blk_far ?_ r.out _; (with_reducible repeat apply pK); refine blk_far ?_ r.out _; (with_reducible repeat apply pK); refine blk_far ?_ r.out _; (with_reducible repeat apply pK); exact j.out)) Tryz.underlying24 rfl (by kernel_rfl)) rfl ?_
 exact ⟨_, _, er_, by (with_reducible repeat apply pV); exact Kd.V_mono (f6V d (f6V a (Kd.V_mono (Kd.V_mono x.out (fun k_ hk => (⟨hk, hk.2⟩ : _ ∧ k_ ≠ a))) (fun k_ hk => (⟨hk, hk.1.1.2.2⟩ : _ ∧ k_ ≠ d))) im_) im_) im_, by (with_reducible repeat apply pV); exact Kd.V_mono (f6V d (f6V a (Kd.V_mono (Kd.V_mono I.out (fun k_ hk => (⟨hk, hk.2⟩ : _ ∧ k_ ≠ a))) (fun k_ hk => (⟨hk, hk.1.1.2.2⟩ : _ ∧ k_ ≠ d))) im_) im_) im_, bl_⟩
/-! ### keys_set: function 75 -/
def keys_set.j0 : Nat → Int → Bool → Int → Int → List (S55) → Int → Bool → Bool → Option (Int × Int × (List (S55)) × Int × Bool × Bool × Option Er × (List (S206)))
 | 0, _, _, _, _, _, _, _, _ => none
 | k + 1, i, x11, b, c, d, e, g, h => if x11 = true then (some (b, c, d, e, g, h, some (Er.num 7), ([] : List (S206)))) else ((grid_Copy.f b c d e g h).bind fun a => (if i = 16 then (some (a.1, a.2.1, a.2.2.1, a.2.2.2.1, false, (i == 15), none, ([] : List (S206)))) else (some (a.1, a.2.1, a.2.2.1, a.2.2.2.1, a.2.2.2.2.1, (i == 15), none, ([] : List (S206))))))
def keys_set.f (k : Nat) (b c : Int) (g : List (S55)) (d : Int) (a e : Bool) (a1 : Int) : Option (Int × Int × (List (S55)) × Int × Bool × Bool × Option Er × (List (S206))) := if a1 = 15 then (keys_set.j0 k a1 a b c g d a e) else (keys_set.j0 k a1 false b c g d a e)
theorem keys_set.mono_l : ∀ k, (∀ b c d e f g i j, LeO (keys_set.j0 k b c d e f g i j) (keys_set.j0 (k + 1) b c d e f g i j))
 | 0 => fun _ _ _ _ _ _ _ _ r h => by simp [keys_set.j0] at h
 | k + 1 => by
  have a := keys_set.mono_l k
  ·intro b c d e f g i j
   unfold keys_set.j0
   repeat' first
   | (with_reducible exact a _ _ _ _ _ _ _ _)
   | (with_reducible exact LeO.refl _)
   | (with_reducible exact LeO.none _)
   | (with_reducible refine LeO.ite ?_ ?_)
   | (with_reducible refine LeO.bind ?_ (fun _ => ?_))
   | exact a _ _ _ _ _ _ _ _
   | exact LeO.none _
   | refine LeO.ite ?_ ?_
   | refine LeO.bind ?_ (fun _ => ?_)
theorem keys_set.mono : ∀ a0 a1 b c a4 d e k, LeO (keys_set.f k a0 a1 b c a4 d e) (keys_set.f (k + 1) a0 a1 b c a4 d e) := by
 intro a0 a1 b c a4 d e k
 have a := keys_set.mono_l k
 unfold keys_set.f
 repeat' first
   | (with_reducible exact a _ _ _ _ _ _ _ _)
   | (with_reducible exact LeO.refl _)
   | (with_reducible exact LeO.none _)
   | (with_reducible refine LeO.ite ?_ ?_)
   | (with_reducible refine LeO.bind ?_ (fun _ => ?_))
   | exact a _ _ _ _ _ _ _ _
   | exact LeO.none _
   | refine LeO.ite ?_ ?_
   | refine LeO.bind ?_ (fun _ => ?_)
theorem keys_set.calls (k : Nat) (E F : Int) (O : Nat → Prop) (C : Option Addr) (J : Nat) (l : List (S55)) (G : Int) (y I : Bool) (a1 r1 r2 : Int) (r3 : List (S55)) (r4 : Int) (r5 r6 : Bool) (r7 : Option Er) (r8 : List (S206)) (w : World) (aE : Kd.V k55 55 w w.heap.size (fun k_ => O k_) (.slice C l.length J) l) (h : keys_set.f k E F l G y I a1 = some (r1, r2, r3, r4, r5, r6, r7, r8)) :
  Calls Tryz.prog 75 #[.agg #[.int .i64 E, .int .i64 F, .slice C l.length J, .int .i64 G, .bool y, .bool I], .int .i64 a1] w fun e w' => ∃ aJ aK : Value, e = .returned (.tuple #[.agg #[.int .i64 r1, .int .i64 r2, aJ, .int .i64 r4, .bool r5, .bool r6], errW aK r7]) ∧ Kd.V k55 55 w' w.heap.size (fun k_ => (O k_ ∨ w.heap.size ≤ k_)) aJ r3 ∧ Kd.V k206 206 w' w.heap.size (fun k_ => (O k_ ∨ w.heap.size ≤ k_)) aK r8 ∧ Below w.heap.size w w' := by
 have c3 := Tryz.underlying24
 have c4 := Tryz.underlying34
 have c5 := Tryz.underlying69
 have S := Z (show Kd.V k55 55 w w.heap.size (fun k_ => (O k_ ∨ w.heap.size ≤ k_)) (.slice C l.length J) l from Kd.V_mono aE (fun k_ hk => .inl hk))
 have HB := Z (Below.refl w.heap.size w)
 unfold keys_set.f at h
 have H := h
 clear h
 have am := Z H
 clear H
 go_enter Tryz.func75, Tryz.ntmps75
 go_upto_region 1 with (first | ((with_reducible refine gD_ 2 rfl ?_); refine bx_ 2 24 #[.int .i64 E, .int .i64 F, .slice C l.length J, .int .i64 G, .bool y, .bool I] ?_; intro b hg w4 hbox hb; replace S := ve' S hg hb; have c := Z hbox; have cT := ln' w hg; replace HB := bs_ hb; clear hb hbox hg) | ((with_reducible refine gD_ 4 rfl ?_); refine bx_ 4 24 zS_ ?_; intro a hg w5 hbox hb; replace S := ve' S hg hb; have g := Z hbox; have cU := ln' w hg; replace HB := bs_ hb; have i := nl' c hg; replace c := kb' c hb; clear hb hbox hg))
 (try simp only [Act.put, sA, sB, sC])
 go_cut [11] (fun cO wc => ∃ (kq : Nat) (U : Bool), cO = .bool U ∧ Aside0 (keys_set.j0 kq a1 U E F l G y I = some (r1, r2, r3, r4, r5, r6, r7, r8)) ∧ Aside0 (kq ≤ k) ∧ Aside0 (Kd.V k55 55 wc w.heap.size (fun k_ => (O k_ ∨ w.heap.size ≤ k_) ∧ k_ ≠ b ∧ k_ ≠ a) (.slice C l.length J) l) ∧ Aside0 (wc.heap[b]? = some (.cells #[.int .i64 E, .int .i64 F, (.slice C l.length J), .int .i64 G, .bool y, .bool I] 24 (0, 0))) ∧ Aside0 (wc.heap[a]? = some (.cells zS_ 24 (0, 0))) ∧ Aside0 (Below w.heap.size w wc))
 case first =>
  have H := am.out
  clear am
  by_cases c6 : a1 = 15
  ·rw [if_pos c6] at H
   obtain ⟨T, an⟩ := eT_ c6
   clear c6
   (first | rw [T] | (simp only [i64_w, i32_w]; rw [T]) | skip)
   have H' := Z H
   clear H
   have c1 := ns_ i
   have ao := cells6 c.out
   go_wp2
   go_meet
   case rel => exact ⟨_, (y), (dn_), H', ⟨by first | omega | exact Nat.le_refl _⟩, ⟨by (with_reducible repeat apply pV); exact Kd.V_mono S.out im_⟩, ⟨vK c.out⟩, ⟨vK g.out⟩, ⟨bl_⟩⟩
  rw [if_neg c6] at H
  obtain ⟨T, an⟩ := eF_ c6
  (first | rw [T] | (simp only [i64_w, i32_w]; rw [T]) | skip)
  have H' := Z H
  clear H
  go_wp2
  go_meet
  case rel => exact ⟨_, (false), (dn_), H', ⟨by first | omega | exact Nat.le_refl _⟩, ⟨by (with_reducible repeat apply pV); exact Kd.V_mono S.out im_⟩, ⟨vK c.out⟩, ⟨vK g.out⟩, ⟨bl_⟩⟩
 clear am
 obtain ⟨kq, U, rfl, HA, c8, GA, c, g, HB⟩ := hcut
 cases kq with
 | zero => exact absurd HA.out (by simp [keys_set.j0])
 | succ da =>
  have H := HA.out
  clear HA
  simp only [keys_set.j0] at H
  by_cases c9 : U = true
  ·subst c9
   rw [if_pos rfl] at H
   obtain ⟨rfl, rfl, rfl, rfl, rfl, rfl, rfl, rfl⟩ := ij8_ H
   have cV := ns_ i
   have aO := cells6 c.out
   have aU := cells6 g.out
   go_wp2_with (first | ((with_reducible refine gate_store (t := 24) (p := 4) rfl ?_); refine sx_ 24 4 ((((((wc.setCell ⟨a, 0, none⟩ (.int .i64 E)).setCell ⟨a, 1, none⟩ (.int .i64 F)).setCell ⟨a, 2, none⟩ (.slice C l.length J)).setCell ⟨a, 3, none⟩ (.int .i64 G)).setCell ⟨a, 4, none⟩ (.bool y)).setCell ⟨a, 5, none⟩ (.bool I)) ?_; intro ak hw; replace GA : Aside0 (Kd.V k55 55 ak w.heap.size (fun k_ => (O k_ ∨ w.heap.size ≤ k_) ∧ k_ ≠ b ∧ k_ ≠ a) (.slice C l.length J) l) := ⟨(by rw [hw]; exact (by (with_reducible repeat apply pV); exact V_off GA.out (fun k_ hk => hk.2.2) off2_ (fun _ hk => ⟨hk.1, ⟨hk.2.1, hk.2.2⟩⟩)))⟩; replace c := Z (sM hw (blk_off c.out i.out off2_)); replace g : Aside0 (ak.heap[a]? = some (.cells #[.int .i64 E, .int .i64 F, .slice C l.length J, .int .i64 G, .bool y, .bool I] 24 (0, 0))) := ⟨by rw [hw]; exact (put6 g.out)⟩; replace HB : Aside0 (Below w.heap.size w ak) := ⟨by rw [hw]; exact bl_⟩; clear hw))
   refine rc2_ (vK g.out) Tryz.underlying24 ?_
   exact ⟨_, _, er_, by (with_reducible repeat apply pV); exact Kd.V_mono GA.out im_, Kd.R_V (Kd.R_nil _ _ _ 0 _), bl_⟩
  replace c9 := Bool.eq_false_iff.mpr c9
  subst c9
  rw [iF_] at H
  replace H := bn_ H
  obtain ⟨⟨j, m, d, n, B, Q⟩, aF, H⟩ := H
  try dsimp only at H
  by_cases W : a1 = 16
  ·rw [if_pos W] at H
   obtain ⟨aC, aD⟩ := eT_ W
   clear W
   obtain ⟨rfl, rfl, rfl, rfl, rfl, rfl, rfl, rfl⟩ := ij8_ H
   have cW := ns_ i
   have a0 := cells6 c.out
   go_wp2_with (first | ((with_reducible refine gF_ 21 rfl ?_); refine gd_ (some 15) Tryz.func21 (grid_Copy.calls E F _ _ l G y I j m d n B Q _ (vC_ GA) (vL_ GA) aF.out) ?_; rintro e cP ⟨aN, rfl, X, hb⟩; refine ⟨_, rfl, ?_⟩; replace GA := Z (Kd.V_elder' (vV GA.out) (Kd.R_base X) hb); have o := Z (Kd.R_lower (Kd.R_newM (M := fun k_ => (w.heap.size ≤ k_)) X (below_size bl_) (fun k_ h_ => h_)) (below_size bl_)); replace c := kb' c hb; replace g := kb' g hb; replace HB := bs_ hb; (try clear hb); (try clear hk); (try clear X); have a7 := cells6 c.out; obtain ⟨z, A, aL⟩ := Kd.R_slice o.out; subst aL) | ((with_reducible refine gate_store (t := 24) (p := 2) rfl ?_); refine sx_ 24 2 ((((((cP.setCell ⟨b, 0, none⟩ (.int .i64 j)).setCell ⟨b, 1, none⟩ (.int .i64 m)).setCell ⟨b, 2, none⟩ (.slice z d.length A)).setCell ⟨b, 3, none⟩ (.int .i64 n)).setCell ⟨b, 4, none⟩ (.bool B)).setCell ⟨b, 5, none⟩ (.bool Q)) ?_; intro Y hw; replace GA : Aside0 (Kd.V k55 55 Y w.heap.size (fun k_ => (O k_ ∨ w.heap.size ≤ k_) ∧ some k_ ≠ (.slice z d.length A : Value).ownBlock ∧ k_ ≠ b ∧ k_ ≠ a) (.slice C l.length J) l) := ⟨(by rw [hw]; exact (by (with_reducible repeat apply pV); exact V_off GA.out (fun k_ hk => hk.1.2.1) off2_ (fun _ hk => ⟨hk.1.1, ⟨hk.2, ⟨hk.1.2.1, hk.1.2.2⟩⟩⟩)))⟩; replace o : Aside0 (Kd.R k55 55 Y w.heap.size (fun k_ => (w.heap.size ≤ k_)) (.slice z d.length A) d) := ⟨(by rw [hw]; exact (by (with_reducible repeat apply pR); exact Kd.R_mono (f6R b (Kd.R_types o.out c.out (by decide)) (fun _ hk => hk.2)) (fun _ hk => hk.1.1)))⟩; replace c : Aside0 (Y.heap[b]? = some (.cells #[.int .i64 j, .int .i64 m, .slice z d.length A, .int .i64 n, .bool B, .bool Q] 24 (0, 0))) := ⟨by rw [hw]; exact (put6 c.out)⟩; replace g := Z (sM hw (blk_off g.out i.out.symm off2_)); replace HB : Aside0 (Below w.heap.size w Y) := ⟨by rw [hw]; exact bl_⟩; clear hw; have bd := cells6 c.out; have bj := cells6 g.out) | ((with_reducible refine gate_store (t := 24) (p := 4) rfl ?_); refine sx_ 24 4 ((((((((Y.setCell ⟨b, 4, none⟩ (.bool false)).setCell ⟨b, 5, none⟩ (.bool (a1 == 15))).setCell ⟨a, 0, none⟩ (.int .i64 j)).setCell ⟨a, 1, none⟩ (.int .i64 m)).setCell ⟨a, 2, none⟩ (.slice z d.length A)).setCell ⟨a, 3, none⟩ (.int .i64 n)).setCell ⟨a, 4, none⟩ (.bool false)).setCell ⟨a, 5, none⟩ (.bool (a1 == 15))) ?_; intro ab hw; replace GA : Aside0 (Kd.V k55 55 ab w.heap.size (fun k_ => (O k_ ∨ w.heap.size ≤ k_) ∧ some k_ ≠ (.slice z d.length A : Value).ownBlock ∧ k_ ≠ b ∧ k_ ≠ a) (.slice C l.length J) l) := ⟨(by rw [hw]; exact (by (with_reducible repeat apply pV); exact Kd.V_mono (f6V a (Kd.V_far (p := ⟨b, 5, none⟩) (Kd.V_far (p := ⟨b, 4, none⟩) (Kd.V_mono (Kd.V_mono GA.out (fun k_ hk => (⟨hk, hk.2.2.1⟩ : _ ∧ k_ ≠ b))) (fun k_ hk => (⟨hk, hk.1.2.2.2⟩ : _ ∧ k_ ≠ a))) (fun _ hk => hk.1.2) (.bool false)) (fun _ hk => hk.1.2) (.bool (a1 == 15))) (fun _ hk => hk.2)) (fun _ hk => ⟨hk.1.1.1, ⟨hk.1.1.2.1, ⟨hk.1.1.2.2.1, hk.1.1.2.2.2⟩⟩⟩)))⟩; replace o : Aside0 (Kd.R k55 55 ab w.heap.size (fun k_ => (w.heap.size ≤ k_)) (.slice z d.length A) d) := ⟨(by rw [hw]; exact (by (with_reducible repeat apply pR); exact Kd.R_mono (f6R a (Kd.R_far (p := ⟨b, 5, none⟩) (Kd.R_far (p := ⟨b, 4, none⟩) (Kd.R_types (Kd.R_types o.out c.out (by decide)) g.out (by decide)) (fun _ hk => hk.1.2) (.bool false)) (fun _ hk => hk.1.2) (.bool (a1 == 15))) (fun _ hk => hk.2)) (fun _ hk => hk.1.1)))⟩; replace c : Aside0 (ab.heap[b]? = some (.cells #[.int .i64 j, .int .i64 m, .slice z d.length A, .int .i64 n, .bool false, .bool (a1 == 15)] 24 (0, 0))) := ⟨(by rw [hw]; exact (by (with_reducible repeat apply pK); refine blk_far ?_ i.out _; (with_reducible repeat apply pK); refine blk_far ?_ i.out _; (with_reducible repeat apply pK); refine blk_far ?_ i.out _; (with_reducible repeat apply pK); refine blk_far ?_ i.out _; (with_reducible repeat apply pK); refine blk_far ?_ i.out _; (with_reducible repeat apply pK); refine blk_far ?_ i.out _; (with_reducible repeat apply pK); refine blk_put (cs := #[.int .i64 j, .int .i64 m, .slice z d.length A, .int .i64 n, .bool false, .bool Q]) ?_ 5 _ rfl; (with_reducible repeat apply pK); refine blk_put (cs := #[.int .i64 j, .int .i64 m, .slice z d.length A, .int .i64 n, .bool B, .bool Q]) ?_ 4 _ rfl; (with_reducible repeat apply pK); exact c.out))⟩; replace g : Aside0 (ab.heap[a]? = some (.cells #[.int .i64 j, .int .i64 m, .slice z d.length A, .int .i64 n, .bool false, .bool (a1 == 15)] 24 (0, 0))) := ⟨(by rw [hw]; exact (put6 (by (with_reducible repeat apply pK); refine blk_far ?_ i.out.symm _; (with_reducible repeat apply pK); refine blk_far ?_ i.out.symm _; (with_reducible repeat apply pK); exact g.out)))⟩; replace HB : Aside0 (Below w.heap.size w ab) := ⟨by rw [hw]; exact bl_⟩; clear hw))
   refine rc2_ (vK g.out) Tryz.underlying24 ?_
   exact ⟨_, _, er_, Kd.V_mono (Kd.R_V (by (with_reducible repeat apply pR); exact o.out)) (fun k_ hk => by first | exact ⟨(.inr (hk.1)), hk.2⟩ | exact (.inr (hk))), Kd.R_V (Kd.R_nil _ _ _ 0 _), bl_⟩
  rw [if_neg W] at H
  obtain ⟨aC, aD⟩ := eF_ W
  obtain ⟨rfl, rfl, rfl, rfl, rfl, rfl, rfl, rfl⟩ := ij8_ H
  have cX := ns_ i
  have bp := cells6 c.out
  go_wp2_with (first | ((with_reducible refine gF_ 21 rfl ?_); refine gd_ (some 15) Tryz.func21 (grid_Copy.calls E F _ _ l G y I j m d n B Q _ (vC_ GA) (vL_ GA) aF.out) ?_; rintro e cQ ⟨aN, rfl, X, hb⟩; refine ⟨_, rfl, ?_⟩; replace GA := Z (Kd.V_elder' (vV GA.out) (Kd.R_base X) hb); have o := Z (Kd.R_lower (Kd.R_newM (M := fun k_ => (w.heap.size ≤ k_)) X (below_size bl_) (fun k_ h_ => h_)) (below_size bl_)); replace c := kb' c hb; replace g := kb' g hb; replace HB := bs_ hb; (try clear hb); (try clear hk); (try clear X); have bv := cells6 c.out; obtain ⟨D, K, aM⟩ := Kd.R_slice o.out; subst aM) | ((with_reducible refine gate_store (t := 24) (p := 2) rfl ?_); refine sx_ 24 2 ((((((cQ.setCell ⟨b, 0, none⟩ (.int .i64 j)).setCell ⟨b, 1, none⟩ (.int .i64 m)).setCell ⟨b, 2, none⟩ (.slice D d.length K)).setCell ⟨b, 3, none⟩ (.int .i64 n)).setCell ⟨b, 4, none⟩ (.bool B)).setCell ⟨b, 5, none⟩ (.bool Q)) ?_; intro aa hw; replace GA : Aside0 (Kd.V k55 55 aa w.heap.size (fun k_ => (O k_ ∨ w.heap.size ≤ k_) ∧ some k_ ≠ (.slice D d.length K : Value).ownBlock ∧ k_ ≠ b ∧ k_ ≠ a) (.slice C l.length J) l) := ⟨(by rw [hw]; exact (by (with_reducible repeat apply pV); exact V_off GA.out (fun k_ hk => hk.1.2.1) off2_ (fun _ hk => ⟨hk.1.1, ⟨hk.2, ⟨hk.1.2.1, hk.1.2.2⟩⟩⟩)))⟩; replace o : Aside0 (Kd.R k55 55 aa w.heap.size (fun k_ => (w.heap.size ≤ k_)) (.slice D d.length K) d) := ⟨(by rw [hw]; exact (by (with_reducible repeat apply pR); exact Kd.R_mono (f6R b (Kd.R_types o.out c.out (by decide)) (fun _ hk => hk.2)) (fun _ hk => hk.1.1)))⟩; replace c : Aside0 (aa.heap[b]? = some (.cells #[.int .i64 j, .int .i64 m, .slice D d.length K, .int .i64 n, .bool B, .bool Q] 24 (0, 0))) := ⟨by rw [hw]; exact (put6 c.out)⟩; replace g := Z (sM hw (blk_off g.out i.out.symm off2_)); replace HB : Aside0 (Below w.heap.size w aa) := ⟨by rw [hw]; exact bl_⟩; clear hw; have bC := cells6 c.out; have bI := cells6 g.out) | ((with_reducible refine gate_store (t := 24) (p := 4) rfl ?_); refine sx_ 24 4 (((((((aa.setCell ⟨b, 5, none⟩ (.bool (a1 == 15))).setCell ⟨a, 0, none⟩ (.int .i64 j)).setCell ⟨a, 1, none⟩ (.int .i64 m)).setCell ⟨a, 2, none⟩ (.slice D d.length K)).setCell ⟨a, 3, none⟩ (.int .i64 n)).setCell ⟨a, 4, none⟩ (.bool B)).setCell ⟨a, 5, none⟩ (.bool (a1 == 15))) ?_; intro ac hw; replace GA : Aside0 (Kd.V k55 55 ac w.heap.size (fun k_ => (O k_ ∨ w.heap.size ≤ k_) ∧ some k_ ≠ (.slice D d.length K : Value).ownBlock ∧ k_ ≠ b ∧ k_ ≠ a) (.slice C l.length J) l) := ⟨(by rw [hw]; exact (by (with_reducible repeat apply pV); exact Kd.V_mono (f6V a (Kd.V_far (p := ⟨b, 5, none⟩) (Kd.V_mono (Kd.V_mono GA.out (fun k_ hk => (⟨hk, hk.2.2.1⟩ : _ ∧ k_ ≠ b))) (fun k_ hk => (⟨hk, hk.1.2.2.2⟩ : _ ∧ k_ ≠ a))) (fun _ hk => hk.1.2) (.bool (a1 == 15))) (fun _ hk => hk.2)) (fun _ hk => ⟨hk.1.1.1, ⟨hk.1.1.2.1, ⟨hk.1.1.2.2.1, hk.1.1.2.2.2⟩⟩⟩)))⟩; replace o : Aside0 (Kd.R k55 55 ac w.heap.size (fun k_ => (w.heap.size ≤ k_)) (.slice D d.length K) d) := ⟨(by rw [hw]; exact (by (with_reducible repeat apply pR); exact Kd.R_mono (f6R a (Kd.R_far (p := ⟨b, 5, none⟩) (Kd.R_types (Kd.R_types o.out c.out (by decide)) g.out (by decide)) (fun _ hk => hk.1.2) (.bool (a1 == 15))) (fun _ hk => hk.2)) (fun _ hk => hk.1.1)))⟩; replace c : Aside0 (ac.heap[b]? = some (.cells #[.int .i64 j, .int .i64 m, .slice D d.length K, .int .i64 n, .bool B, .bool (a1 == 15)] 24 (0, 0))) := ⟨(by rw [hw]; exact (by (with_reducible repeat apply pK); refine blk_far ?_ i.out _; (with_reducible repeat apply pK); refine blk_far ?_ i.out _; (with_reducible repeat apply pK); refine blk_far ?_ i.out _; (with_reducible repeat apply pK); refine blk_far ?_ i.out _; (with_reducible repeat apply pK); refine blk_far ?_ i.out _; (with_reducible repeat apply pK); refine blk_far ?_ i.out _; (with_reducible repeat apply pK); refine blk_put (cs := #[.int .i64 j, .int .i64 m, .slice D d.length K, .int .i64 n, .bool B, .bool Q]) ?_ 5 _ rfl; (with_reducible repeat apply pK); exact c.out))⟩; replace g : Aside0 (ac.heap[a]? = some (.cells #[.int .i64 j, .int .i64 m, .slice D d.length K, .int .i64 n, .bool B, .bool (a1 == 15)] 24 (0, 0))) := ⟨(by rw [hw]; exact (put6 (by (with_reducible repeat apply pK); refine blk_far ?_ i.out.symm _; (with_reducible repeat apply pK); exact g.out)))⟩; replace HB : Aside0 (Below w.heap.size w ac) := ⟨by rw [hw]; exact bl_⟩; clear hw))
  refine rc2_ (vK g.out) Tryz.underlying24 ?_
  exact ⟨_, _, er_, Kd.V_mono (Kd.R_V (by (with_reducible repeat apply pR); exact o.out)) (fun k_ hk => by first | exact ⟨(.inr (hk.1)), hk.2⟩ | exact (.inr (hk))), Kd.R_V (Kd.R_nil _ _ _ 0 _), bl_⟩
end Go.Proofs.YtjpedimndkibnaaGreatDoor.P
