/- pp.py and press2.py (wip/tools) wrote this text. -/
import Derived.Test.YtgboplhcjhlabaaDoorPx0
import Derived.Test.YtgboplhcjhlabaaDoorPxS
import Derived.Test.YtgboplhcjhlabaaDoorPx2
import Derived.Test.YtgboplhcjhlabaaDoorPx3
import Derived.Test.YtgboplhcjhlabaaDoorPx8
import Derived.Test.YtgboplhcjhlabaaDoorPx9
import Derived.Test.YtgboplhcjhlabaaDoorPx9L
import Derived.Test.YtgboplhcjhlabaaDoorPx13
namespace Go.Proofs.YtgboplhcjhlabaaDoor.P
open Go.RowKit Go.Proofs.YtgboplhcjhlabaaDoorW.PrintWords Go.Proofs.YtgboplhcjhlabaaDoorW.PrintLast Go.Proofs.YtgboplhcjhlabaaDoorW.PrintMore
attribute [local go_sem] max2_int min2_int max_two min_two max_three min_three max_four min_four
attribute [local go_sem] Instr.field asAgg
set_option linter.unusedVariables false
set_option linter.unusedSimpArgs false

attribute [local go_sem high] eqA44
/-! ### shutterlaw12_PaintGuards: function 4 -/
mutual
def shutterlaw12_PaintGuards.j0 : Nat → Int → Bool → Int → Int → List (S44) → Int → Bool → Bool → Int → List Int → Bool → Bool → Int → Bool → Int → Int → Option (Bool)
 | 0, _, _, _, _, _, _, _, _, _, _, _, _, _, _, _, _ => none
 | k + 1, u, t, e, g, b, h, c, d, i, j, l, m, n, o, p, q => if t = true then ((shutterlaw12_awake.f k).bind fun r => (some r)) else (if (b.length : Int) = 0 then (none) else ((paint_One.f k e g b h c d (Int.tmod (wrap64 (u)) (b.length : Int)) i j l m n o p q).bind fun a => (if a.2.2.2.2.2.2.2.1.isNone = true then ((shutterref10_Right.f k a.1 a.2.1 a.2.2.1 a.2.2.2.1 a.2.2.2.2.1 a.2.2.2.2.2.1).bind fun s => (if s = true then (if a.2.2.2.2.2.2.1 < 0 then (none) else (if a.2.2.2.2.2.2.1 ≥ (b.length : Int) then (none) else (if (a.2.2.1.length : Int) = (b.length : Int) then (if (a.2.2.2.2.1 != c) = true then (none) else (if (a.2.2.2.2.2.1 != d) = true then (none) else (shutterlaw12_PaintGuards.l0 k 0 e g b h c d i j l m n o p q a.1 a.2.1 a.2.2.1 a.2.2.2.1 a.2.2.2.2.1 a.2.2.2.2.2.1))) else (none)))) else (none))) else (some true))))
def shutterlaw12_PaintGuards.l0 : Nat → Int → Int → Int → List (S44) → Int → Bool → Bool → Int → List Int → Bool → Bool → Int → Bool → Int → Int → Int → Int → List (S44) → Int → Bool → Bool → Option (Bool)
 | 0, _, _, _, _, _, _, _, _, _, _, _, _, _, _, _, _, _, _, _, _, _ => none
 | k + 1, x11, e, g, b, d, h, i, c, l, m, n, o, p, q, r, s, t, a, j, u, v => if x11 < (b.length : Int) then (if 0 ≤ x11 then (if x11 < (a.length : Int) then (if (((rd_T44 a x11).f0) == ((rd_T44 b x11).f0) && ((((rd_T44 a x11).f1.f0) == ((rd_T44 b x11).f1.f0) && (((rd_T44 a x11).f1.f1) == ((rd_T44 b x11).f1.f1) && (((rd_T44 a x11).f1.f2) == ((rd_T44 b x11).f1.f2) && (((rd_T44 a x11).f1.f3) == ((rd_T44 b x11).f1.f3))))) && (((rd_T44 a x11).f2) == ((rd_T44 b x11).f2)))) = true then (shutterlaw12_PaintGuards.l0 k (wrap64 (x11 + 1)) e g b d h i c l m n o p q r s t a j u v) else (if c = 3 then (none) else (if c = 4 then (none) else (if c = 5 then (none) else (if c = 7 then (if (rd_T44 a x11).f0 = true then (none) else (if ((rd_T44 a x11).f2) = 0 then ((shutterref11_Open.f k e g b d h i x11).bind fun w => (if w = true then (shutterlaw12_PaintGuards.l0 k (wrap64 (x11 + 1)) e g b d h i c l m n o p q r s t a j u v) else (none))) else (none))) else (shutterlaw12_PaintGuards.l0 k (wrap64 (x11 + 1)) e g b d h i c l m n o p q r s t a j u v)))))) else (none)) else (none)) else (if c = 4 then (some true) else (some (j == d)))
end
def shutterlaw12_PaintGuards.f (k : Nat) (a : Int) (b : Int) (g : List (S44)) (c : Int) (d : Bool) (e : Bool) (a1 : Int) (i : Int) (h : List Int) (j : Bool) (l : Bool) (m : Int) (n : Bool) (o : Int) (p : Int) : Option (Bool) := (shutterlaw12_awake.f k).bind fun q => (if q = true then ((shutterref10_Few.f k a b g c d e).bind fun r => (if r = true then (shutterlaw12_PaintGuards.j0 k a1 (decide ((h.length : Int) > 300)) a b g c d e i h j l m n o p) else (shutterlaw12_PaintGuards.j0 k a1 true a b g c d e i h j l m n o p))) else (none))
theorem shutterlaw12_PaintGuards.mono_l : ∀ k, (∀ g i j l m n o p q s a b c d e f, LeO (shutterlaw12_PaintGuards.j0 k g i j l m n o p q s a b c d e f) (shutterlaw12_PaintGuards.j0 (k + 1) g i j l m n o p q s a b c d e f)) ∧ (∀ g i j l m n o p q s a b c d e f v w x y z, LeO (shutterlaw12_PaintGuards.l0 k g i j l m n o p q s a b c d e f v w x y z) (shutterlaw12_PaintGuards.l0 (k + 1) g i j l m n o p q s a b c d e f v w x y z))
 | 0 => ⟨fun _ _ _ _ _ _ _ _ _ _ _ _ _ _ _ _ r h => by simp [shutterlaw12_PaintGuards.j0] at h, fun _ _ _ _ _ _ _ _ _ _ _ _ _ _ _ _ _ _ _ _ _ r h => by simp [shutterlaw12_PaintGuards.l0] at h⟩
 | k + 1 => by
  obtain ⟨t, u⟩ := shutterlaw12_PaintGuards.mono_l k
  refine ⟨?_, ?_⟩
  ·intro g i j l m n o p q s a b c d e f
   unfold shutterlaw12_PaintGuards.j0
   repeat' first
   | (with_reducible exact t _ _ _ _ _ _ _ _ _ _ _ _ _ _ _ _)
   | (with_reducible exact u _ _ _ _ _ _ _ _ _ _ _ _ _ _ _ _ _ _ _ _ _)
   | (with_reducible exact paint_One.mono _ _ _ _ _ _ _ _ _ _ _ _ _ _ _ _)
   | (with_reducible exact shutterlaw12_awake.mono _)
   | (with_reducible exact shutterref10_Few.mono _ _ _ _ _ _ _)
   | (with_reducible exact shutterref10_Right.mono _ _ _ _ _ _ _)
   | (with_reducible exact shutterref11_Open.mono _ _ _ _ _ _ _ _)
   | (with_reducible exact LeO.refl _)
   | (with_reducible exact LeO.none _)
   | (with_reducible refine LeO.ite ?_ ?_)
   | (with_reducible refine LeO.bind ?_ (fun _ => ?_))
   | exact t _ _ _ _ _ _ _ _ _ _ _ _ _ _ _ _
   | exact u _ _ _ _ _ _ _ _ _ _ _ _ _ _ _ _ _ _ _ _ _
   | exact paint_One.mono _ _ _ _ _ _ _ _ _ _ _ _ _ _ _ _
   | exact shutterlaw12_awake.mono _
   | exact shutterref10_Few.mono _ _ _ _ _ _ _
   | exact shutterref10_Right.mono _ _ _ _ _ _ _
   | exact shutterref11_Open.mono _ _ _ _ _ _ _ _
   | exact LeO.none _
   | refine LeO.ite ?_ ?_
   | refine LeO.bind ?_ (fun _ => ?_)
  ·intro g i j l m n o p q s a b c d e f v w x y z
   unfold shutterlaw12_PaintGuards.l0
   repeat' first
   | (with_reducible exact t _ _ _ _ _ _ _ _ _ _ _ _ _ _ _ _)
   | (with_reducible exact u _ _ _ _ _ _ _ _ _ _ _ _ _ _ _ _ _ _ _ _ _)
   | (with_reducible exact paint_One.mono _ _ _ _ _ _ _ _ _ _ _ _ _ _ _ _)
   | (with_reducible exact shutterlaw12_awake.mono _)
   | (with_reducible exact shutterref10_Few.mono _ _ _ _ _ _ _)
   | (with_reducible exact shutterref10_Right.mono _ _ _ _ _ _ _)
   | (with_reducible exact shutterref11_Open.mono _ _ _ _ _ _ _ _)
   | (with_reducible exact LeO.refl _)
   | (with_reducible exact LeO.none _)
   | (with_reducible refine LeO.ite ?_ ?_)
   | (with_reducible refine LeO.bind ?_ (fun _ => ?_))
   | exact t _ _ _ _ _ _ _ _ _ _ _ _ _ _ _ _
   | exact u _ _ _ _ _ _ _ _ _ _ _ _ _ _ _ _ _ _ _ _ _
   | exact paint_One.mono _ _ _ _ _ _ _ _ _ _ _ _ _ _ _ _
   | exact shutterlaw12_awake.mono _
   | exact shutterref10_Few.mono _ _ _ _ _ _ _
   | exact shutterref10_Right.mono _ _ _ _ _ _ _
   | exact shutterref11_Open.mono _ _ _ _ _ _ _ _
   | exact LeO.none _
   | refine LeO.ite ?_ ?_
   | refine LeO.bind ?_ (fun _ => ?_)
theorem shutterlaw12_PaintGuards.mono : ∀ a0 a1 i j a4 l m n o p a b c d e k, LeO (shutterlaw12_PaintGuards.f k a0 a1 i j a4 l m n o p a b c d e) (shutterlaw12_PaintGuards.f (k + 1) a0 a1 i j a4 l m n o p a b c d e) := by
 intro a0 a1 i j a4 l m n o p a b c d e k
 obtain ⟨g, h⟩ := shutterlaw12_PaintGuards.mono_l k
 unfold shutterlaw12_PaintGuards.f
 repeat' first
   | (with_reducible exact g _ _ _ _ _ _ _ _ _ _ _ _ _ _ _ _)
   | (with_reducible exact h _ _ _ _ _ _ _ _ _ _ _ _ _ _ _ _ _ _ _ _ _)
   | (with_reducible exact paint_One.mono _ _ _ _ _ _ _ _ _ _ _ _ _ _ _ _)
   | (with_reducible exact shutterlaw12_awake.mono _)
   | (with_reducible exact shutterref10_Few.mono _ _ _ _ _ _ _)
   | (with_reducible exact shutterref10_Right.mono _ _ _ _ _ _ _)
   | (with_reducible exact shutterref11_Open.mono _ _ _ _ _ _ _ _)
   | (with_reducible exact LeO.refl _)
   | (with_reducible exact LeO.none _)
   | (with_reducible refine LeO.ite ?_ ?_)
   | (with_reducible refine LeO.bind ?_ (fun _ => ?_))
   | exact g _ _ _ _ _ _ _ _ _ _ _ _ _ _ _ _
   | exact h _ _ _ _ _ _ _ _ _ _ _ _ _ _ _ _ _ _ _ _ _
   | exact paint_One.mono _ _ _ _ _ _ _ _ _ _ _ _ _ _ _ _
   | exact shutterlaw12_awake.mono _
   | exact shutterref10_Few.mono _ _ _ _ _ _ _
   | exact shutterref10_Right.mono _ _ _ _ _ _ _
   | exact shutterref11_Open.mono _ _ _ _ _ _ _ _
   | exact LeO.none _
   | refine LeO.ite ?_ ?_
   | refine LeO.bind ?_ (fun _ => ?_)
set_option maxHeartbeats 8000000 in
set_option maxRecDepth 100000 in
theorem shutterlaw12_PaintGuards.calls (k : Nat) (A : Int) (B : Int) (aL : Option Addr) (aN : Nat) (i : List (S44)) (D : Int) (u : Bool) (v : Bool) (a1 : Int) (x : Int) (aM : Option Addr) (aO : Nat) (F : List Int) (O : Bool) (P : Bool) (Q : Int) (R : Bool) (S : Int) (T : Int) (r : Bool) (w : World) (dx : Kd.C k44 w aL i.length i) (di : i.length ≤ aN) (dy : Kd.C (Kd.int .u8) w aM F.length F) (dj : F.length ≤ aO) (hG : LaidG w) (h : shutterlaw12_PaintGuards.f k A B i D u v a1 x F O P Q R S T = some r) :
  Calls Tryd.prog 4 #[.agg #[.int .i64 A, .int .i64 B, .slice aL i.length aN, .int .i64 D, .bool u, .bool v], .int .u16 a1, .agg #[.int .i64 x, .slice aM F.length aO, .bool O, .bool P, .int .i64 Q, .bool R, .int .i64 S, .int .u8 T]] w fun e w' => e = .returned (.bool r) ∧ Below w.heap.size w w' := by
 have HG := Z hG
 clear hG
 have jA := Tryd.underlying24
 have jB := Tryd.underlying30
 have jD := Tryd.underlying44
 have jC := Tryd.underlying34
 have jE := Tryd.underlying75
 have ag := Z dx
 have ar := Z di
 clear dx di
 have aT := Z dy
 have aS := Z dj
 clear dy dj
 have HB := Z (Below.refl w.heap.size w)
 have H : ((shutterlaw12_awake.f k).bind fun cT => (if cT = true then ((shutterref10_Few.f k A B i D u v).bind fun aQ => (if aQ = true then (shutterlaw12_PaintGuards.j0 k a1 (decide ((F.length : Int) > 300)) A B i D u v x F O P Q R S T) else (shutterlaw12_PaintGuards.j0 k a1 true A B i D u v x F O P Q R S T))) else (none))) = some r := h
 clear h
 have ej := Z H
 clear H
 go_enter Tryd.func4, Tryd.ntmps4
 go_upto_region 1 with (first | ((with_reducible refine gate_dst (N := 3) rfl ?_); (try (refine gate_guard (by rfl) ?_; dsimp only)); refine bx_ 3 24 #[.int .i64 A, .int .i64 B, .slice aL i.length aN, .int .i64 D, .bool u, .bool v] ?_; intro X hg w5 hbox hb; have b := Z (hbox); have aw := Z (ln_ hg : w.heap.size ≤ X); have c7 := Z (ln_ hg : w.heap.size ≤ X); replace HB := Z (below_step bl_ hb); clear hb hbox hg) | ((with_reducible refine gate_dst (N := 5) rfl ?_); (try (refine gate_guard (by rfl) ?_; dsimp only)); refine bx_ 5 30 #[.int .i64 x, .slice aM F.length aO, .bool O, .bool P, .int .i64 Q, .bool R, .int .i64 S, .int .u8 T] ?_; intro Y hg w6 hbox hb; have d := Z (hbox); have ax := Z (ln_ hg : w.heap.size ≤ Y); have c9 := Z (ln_ hg : w.heap.size ≤ Y); replace HB := Z (below_step bl_ hb); have aa := Z (nl b.out hg); have ab := Z (ng b.out hg); replace b := Z (kb b.out hb); clear hb hbox hg))
 repeat (go_quiet (first | ((with_reducible refine gate_dst (N := 3) rfl ?_); (try (refine gate_guard (by rfl) ?_; dsimp only)); refine bx_ 3 24 #[.int .i64 A, .int .i64 B, .slice aL i.length aN, .int .i64 D, .bool u, .bool v] ?_; intro X hg w5 hbox hb; have b := Z (hbox); have aw := Z (ln_ hg : w.heap.size ≤ X); have c7 := Z (ln_ hg : w.heap.size ≤ X); replace HB := Z (below_step bl_ hb); clear hb hbox hg) | ((with_reducible refine gate_dst (N := 5) rfl ?_); (try (refine gate_guard (by rfl) ?_; dsimp only)); refine bx_ 5 30 #[.int .i64 x, .slice aM F.length aO, .bool O, .bool P, .int .i64 Q, .bool R, .int .i64 S, .int .u8 T] ?_; intro Y hg w6 hbox hb; have d := Z (hbox); have ax := Z (ln_ hg : w.heap.size ≤ Y); have c9 := Z (ln_ hg : w.heap.size ≤ Y); replace HB := Z (below_step bl_ hb); have aa := Z (nl b.out hg); have ab := Z (ng b.out hg); replace b := Z (kb b.out hb); clear hb hbox hg)); go_upto_region 1 with (first | ((with_reducible refine gate_dst (N := 3) rfl ?_); (try (refine gate_guard (by rfl) ?_; dsimp only)); refine bx_ 3 24 #[.int .i64 A, .int .i64 B, .slice aL i.length aN, .int .i64 D, .bool u, .bool v] ?_; intro X hg w5 hbox hb; have b := Z (hbox); have aw := Z (ln_ hg : w.heap.size ≤ X); have c7 := Z (ln_ hg : w.heap.size ≤ X); replace HB := Z (below_step bl_ hb); clear hb hbox hg) | ((with_reducible refine gate_dst (N := 5) rfl ?_); (try (refine gate_guard (by rfl) ?_; dsimp only)); refine bx_ 5 30 #[.int .i64 x, .slice aM F.length aO, .bool O, .bool P, .int .i64 Q, .bool R, .int .i64 S, .int .u8 T] ?_; intro Y hg w6 hbox hb; have d := Z (hbox); have ax := Z (ln_ hg : w.heap.size ≤ Y); have c9 := Z (ln_ hg : w.heap.size ≤ Y); replace HB := Z (below_step bl_ hb); have aa := Z (nl b.out hg); have ab := Z (ng b.out hg); replace b := Z (kb b.out hb); clear hb hbox hg)))
 (try simp only [Act.put, sA, sB, sC])
 go_cut [24] (fun iG wc => ∃ (kq : Nat) (cm : Bool), iG = .bool cm ∧ Aside0 (shutterlaw12_PaintGuards.j0 kq a1 cm A B i D u v x F O P Q R S T = some r) ∧ Aside0 (kq ≤ k) ∧ Aside0 (wc.heap[X]? = some (.cells #[.int .i64 A, .int .i64 B, (.slice aL i.length aN), .int .i64 D, .bool u, .bool v] 24 (0, 0))) ∧ Aside0 (wc.heap[Y]? = some (.cells #[.int .i64 x, (.slice aM F.length aO), .bool O, .bool P, .int .i64 Q, .bool R, .int .i64 S, .int .u8 T] 30 (0, 0))) ∧ Aside0 (Below w.heap.size w wc))
 case first =>
  have H := ej.out
  clear ej
  replace H := Option.bind_eq_some_iff.mp H
  obtain ⟨cT, eK, H⟩ := H
  replace H : (if cT = true then ((shutterref10_Few.f k A B i D u v).bind fun aQ => (if aQ = true then (shutterlaw12_PaintGuards.j0 k a1 (decide ((F.length : Int) > 300)) A B i D u v x F O P Q R S T) else (shutterlaw12_PaintGuards.j0 k a1 true A B i D u v x F O P Q R S T))) else (none)) = some r := H
  have A7 := Z eK
  clear eK
  by_cases c8 : cT = true
  ·subst c8
   have H1 : ((shutterref10_Few.f k A B i D u v).bind fun aQ => (if aQ = true then (shutterlaw12_PaintGuards.j0 k a1 (decide ((F.length : Int) > 300)) A B i D u v x F O P Q R S T) else (shutterlaw12_PaintGuards.j0 k a1 true A B i D u v x F O P Q R S T))) = some r := by rw [if_pos rfl] at H; exact H
   clear H
   have H := H1
   clear H1
   replace H := Option.bind_eq_some_iff.mp H
   obtain ⟨aQ, eL, H⟩ := H
   replace H : (if aQ = true then (shutterlaw12_PaintGuards.j0 k a1 (decide ((F.length : Int) > 300)) A B i D u v x F O P Q R S T) else (shutterlaw12_PaintGuards.j0 k a1 true A B i D u v x F O P Q R S T)) = some r := H
   have A9 := Z eL
   clear eL
   by_cases c10 : aQ = true
   ·subst c10
    have H1 : (shutterlaw12_PaintGuards.j0 k a1 (decide ((F.length : Int) > 300)) A B i D u v x F O P Q R S T) = some r := by rw [if_pos rfl] at H; exact H
    clear H
    have H := H1
    clear H1
    have H' := Z H
    clear H
    go_wp2_with (first | (go_at_call 14; (with_reducible refine (shutterlaw12_awake.calls k  true _ ?sideG A7.out).mono ?_); (case sideG => exact laidG_below HG.out bl_ rfl); rintro e eM ⟨rfl, hb⟩; replace b := Z (kb b.out hb); replace d := Z (kb d.out hb); replace HB := Z (below_step bl_ hb); (try clear hb); (try clear ap); (try clear hk); (try clear hi); have dk := aa.out; have dr := ab.out; obtain ⟨aU, aV, aW, aX, aY, aZ, bf, bg, bh, bi, bj, bk⟩ := cells6 b.out) | (go_at_call 15; (with_reducible refine (shutterref10_Few.calls k A B _ _ i D u v true _ ?side1 ?side2 A9.out).mono ?_); (case side1 => repeat (first | exact (Kd.C_below ag.out HB.out) | (with_reducible apply pC))); (case side2 => exact ar.out); rintro e eN ⟨rfl, hb⟩; replace b := Z (kb b.out hb); replace d := Z (kb d.out hb); replace HB := Z (below_step bl_ hb); (try clear hb); (try clear ap); (try clear hk); (try clear hi); obtain ⟨a0, a2, a3, a4, a5, a6, a7, a8, bl, bm, bn, bo, bp, bq, br, bs⟩ := cells8 d.out))
    repeat (go_quiet (first | (go_at_call 14; (with_reducible refine (shutterlaw12_awake.calls k  true _ ?sideG A7.out).mono ?_); (case sideG => exact laidG_below HG.out bl_ rfl); rintro e eM ⟨rfl, hb⟩; replace b := Z (kb b.out hb); replace d := Z (kb d.out hb); replace HB := Z (below_step bl_ hb); (try clear hb); (try clear ap); (try clear hk); (try clear hi); have dk := aa.out; have dr := ab.out; obtain ⟨aU, aV, aW, aX, aY, aZ, bf, bg, bh, bi, bj, bk⟩ := cells6 b.out) | (go_at_call 15; (with_reducible refine (shutterref10_Few.calls k A B _ _ i D u v true _ ?side1 ?side2 A9.out).mono ?_); (case side1 => repeat (first | exact (Kd.C_below ag.out HB.out) | (with_reducible apply pC))); (case side2 => exact ar.out); rintro e eN ⟨rfl, hb⟩; replace b := Z (kb b.out hb); replace d := Z (kb d.out hb); replace HB := Z (below_step bl_ hb); (try clear hb); (try clear ap); (try clear hk); (try clear hi); obtain ⟨a0, a2, a3, a4, a5, a6, a7, a8, bl, bm, bn, bo, bp, bq, br, bs⟩ := cells8 d.out)); try go_wp2_with (first | (go_at_call 14; (with_reducible refine (shutterlaw12_awake.calls k  true _ ?sideG A7.out).mono ?_); (case sideG => exact laidG_below HG.out bl_ rfl); rintro e eM ⟨rfl, hb⟩; replace b := Z (kb b.out hb); replace d := Z (kb d.out hb); replace HB := Z (below_step bl_ hb); (try clear hb); (try clear ap); (try clear hk); (try clear hi); have dk := aa.out; have dr := ab.out; obtain ⟨aU, aV, aW, aX, aY, aZ, bf, bg, bh, bi, bj, bk⟩ := cells6 b.out) | (go_at_call 15; (with_reducible refine (shutterref10_Few.calls k A B _ _ i D u v true _ ?side1 ?side2 A9.out).mono ?_); (case side1 => repeat (first | exact (Kd.C_below ag.out HB.out) | (with_reducible apply pC))); (case side2 => exact ar.out); rintro e eN ⟨rfl, hb⟩; replace b := Z (kb b.out hb); replace d := Z (kb d.out hb); replace HB := Z (below_step bl_ hb); (try clear hb); (try clear ap); (try clear hk); (try clear hi); obtain ⟨a0, a2, a3, a4, a5, a6, a7, a8, bl, bm, bn, bo, bp, bq, br, bs⟩ := cells8 d.out)))
    go_meet
    case rel => exact ⟨_, (decide ((F.length : Int) > 300)), (dn_), H', ⟨by first | omega | exact Nat.le_refl _⟩, ⟨vK b.out⟩, ⟨vK d.out⟩, ⟨bl_⟩⟩
   ·replace c10 := Bool.eq_false_iff.mpr c10
    subst c10
    have H1 : (shutterlaw12_PaintGuards.j0 k a1 true A B i D u v x F O P Q R S T) = some r := by rw [if_neg (show ¬ (false = true) by decide)] at H; exact H
    clear H
    have H := H1
    clear H1
    have H' := Z H
    clear H
    go_wp2_with (first | (go_at_call 14; (with_reducible refine (shutterlaw12_awake.calls k  true _ ?sideG A7.out).mono ?_); (case sideG => exact laidG_below HG.out bl_ rfl); rintro e eO ⟨rfl, hb⟩; replace b := Z (kb b.out hb); replace d := Z (kb d.out hb); replace HB := Z (below_step bl_ hb); (try clear hb); (try clear ap); (try clear hk); (try clear hi); have dl := aa.out; have ds := ab.out; obtain ⟨a9, ba, bb, bc, bd, be, bt, bu, bv, bw, bx, bz⟩ := cells6 b.out) | (go_at_call 15; (with_reducible refine (shutterref10_Few.calls k A B _ _ i D u v false _ ?side1 ?side2 A9.out).mono ?_); (case side1 => repeat (first | exact (Kd.C_below ag.out HB.out) | (with_reducible apply pC))); (case side2 => exact ar.out); rintro e eP ⟨rfl, hb⟩; replace b := Z (kb b.out hb); replace d := Z (kb d.out hb); replace HB := Z (below_step bl_ hb); (try clear hb); (try clear ap); (try clear hk); (try clear hi)))
    repeat (go_quiet (first | (go_at_call 14; (with_reducible refine (shutterlaw12_awake.calls k  true _ ?sideG A7.out).mono ?_); (case sideG => exact laidG_below HG.out bl_ rfl); rintro e eO ⟨rfl, hb⟩; replace b := Z (kb b.out hb); replace d := Z (kb d.out hb); replace HB := Z (below_step bl_ hb); (try clear hb); (try clear ap); (try clear hk); (try clear hi); have dl := aa.out; have ds := ab.out; obtain ⟨a9, ba, bb, bc, bd, be, bt, bu, bv, bw, bx, bz⟩ := cells6 b.out) | (go_at_call 15; (with_reducible refine (shutterref10_Few.calls k A B _ _ i D u v false _ ?side1 ?side2 A9.out).mono ?_); (case side1 => repeat (first | exact (Kd.C_below ag.out HB.out) | (with_reducible apply pC))); (case side2 => exact ar.out); rintro e eP ⟨rfl, hb⟩; replace b := Z (kb b.out hb); replace d := Z (kb d.out hb); replace HB := Z (below_step bl_ hb); (try clear hb); (try clear ap); (try clear hk); (try clear hi))); try go_wp2_with (first | (go_at_call 14; (with_reducible refine (shutterlaw12_awake.calls k  true _ ?sideG A7.out).mono ?_); (case sideG => exact laidG_below HG.out bl_ rfl); rintro e eO ⟨rfl, hb⟩; replace b := Z (kb b.out hb); replace d := Z (kb d.out hb); replace HB := Z (below_step bl_ hb); (try clear hb); (try clear ap); (try clear hk); (try clear hi); have dl := aa.out; have ds := ab.out; obtain ⟨a9, ba, bb, bc, bd, be, bt, bu, bv, bw, bx, bz⟩ := cells6 b.out) | (go_at_call 15; (with_reducible refine (shutterref10_Few.calls k A B _ _ i D u v false _ ?side1 ?side2 A9.out).mono ?_); (case side1 => repeat (first | exact (Kd.C_below ag.out HB.out) | (with_reducible apply pC))); (case side2 => exact ar.out); rintro e eP ⟨rfl, hb⟩; replace b := Z (kb b.out hb); replace d := Z (kb d.out hb); replace HB := Z (below_step bl_ hb); (try clear hb); (try clear ap); (try clear hk); (try clear hi))))
    go_meet
    case rel => exact ⟨_, (true), (dn_), H', ⟨by first | omega | exact Nat.le_refl _⟩, ⟨vK b.out⟩, ⟨vK d.out⟩, ⟨bl_⟩⟩
  ·replace c8 := Bool.eq_false_iff.mpr c8
   subst c8
   have H1 : (none) = some r := by rw [if_neg (show ¬ (false = true) by decide)] at H; exact H
   clear H
   have H := H1
   clear H1
   exact absurd H (by simp)
 case rest =>
  clear ej
  try clear c1
  try clear c2
  try clear p2
  try clear c4
  try clear c8
  try clear c10
  try clear iD
  try clear iE
  try clear aU
  try clear aV
  try clear aW
  try clear aX
  try clear aY
  try clear aZ
  try clear a0
  try clear a2
  try clear a3
  try clear a4
  try clear a5
  try clear a6
  try clear a7
  try clear a8
  try clear a9
  try clear ba
  try clear bb
  try clear bc
  try clear bd
  try clear be
  try clear bf
  try clear bg
  try clear bh
  try clear bi
  try clear bj
  try clear bk
  try clear bl
  try clear bm
  try clear bn
  try clear bo
  try clear bp
  try clear bq
  try clear br
  try clear bs
  try clear bt
  try clear bu
  try clear bv
  try clear bw
  try clear bx
  try clear bz
  obtain ⟨kq, cm, rfl, HA, cA, b, d, HB⟩ := hcut
  cases kq with
  | zero => exact absurd HA.out (by simp [shutterlaw12_PaintGuards.j0])
  | succ ay =>
   have H := HA.out
   clear HA
   simp only [shutterlaw12_PaintGuards.j0] at H
   by_cases cU : cm = true
   ·subst cU
    have H1 : ((shutterlaw12_awake.f ay).bind fun cg => (some cg)) = some r := by rw [if_pos rfl] at H; exact H
    clear H
    have H := H1
    clear H1
    replace H := Option.bind_eq_some_iff.mp H
    obtain ⟨cg, ec, H⟩ := H
    replace H : (some cg) = some r := H
    have eb := Z ec
    clear ec
    obtain rfl := Option.some.inj H
    go_wp2_with (first | (go_at_call 14; (with_reducible refine (shutterlaw12_awake.calls ay  cg _ ?sideG eb.out).mono ?_); (case sideG => exact laidG_below HG.out bl_ rfl); rintro e eQ ⟨rfl, hb⟩; replace b := Z (kb b.out hb); replace d := Z (kb d.out hb); replace HB := Z (below_step bl_ hb); (try clear hb); (try clear ap); (try clear hk); (try clear hi)))
    repeat (go_quiet (first | (go_at_call 14; (with_reducible refine (shutterlaw12_awake.calls ay  cg _ ?sideG eb.out).mono ?_); (case sideG => exact laidG_below HG.out bl_ rfl); rintro e eQ ⟨rfl, hb⟩; replace b := Z (kb b.out hb); replace d := Z (kb d.out hb); replace HB := Z (below_step bl_ hb); (try clear hb); (try clear ap); (try clear hk); (try clear hi))); try go_wp2_with (first | (go_at_call 14; (with_reducible refine (shutterlaw12_awake.calls ay  cg _ ?sideG eb.out).mono ?_); (case sideG => exact laidG_below HG.out bl_ rfl); rintro e eQ ⟨rfl, hb⟩; replace b := Z (kb b.out hb); replace d := Z (kb d.out hb); replace HB := Z (below_step bl_ hb); (try clear hb); (try clear ap); (try clear hk); (try clear hi))))
    go_ret
    exact ⟨er_, bl_⟩
   ·replace cU := Bool.eq_false_iff.mpr cU
    subst cU
    have H1 : (if (i.length : Int) = 0 then (none) else ((paint_One.f ay A B i D u v (Int.tmod (wrap64 (a1)) (i.length : Int)) x F O P Q R S T).bind fun ai => (if ai.2.2.2.2.2.2.2.1.isNone = true then ((shutterref10_Right.f ay ai.1 ai.2.1 ai.2.2.1 ai.2.2.2.1 ai.2.2.2.2.1 ai.2.2.2.2.2.1).bind fun aR => (if aR = true then (if ai.2.2.2.2.2.2.1 < 0 then (none) else (if ai.2.2.2.2.2.2.1 ≥ (i.length : Int) then (none) else (if (ai.2.2.1.length : Int) = (i.length : Int) then (if (ai.2.2.2.2.1 != u) = true then (none) else (if (ai.2.2.2.2.2.1 != v) = true then (none) else (shutterlaw12_PaintGuards.l0 ay 0 A B i D u v x F O P Q R S T ai.1 ai.2.1 ai.2.2.1 ai.2.2.2.1 ai.2.2.2.2.1 ai.2.2.2.2.2.1))) else (none)))) else (none))) else (some true)))) = some r := by rw [if_neg (show ¬ (false = true) by decide)] at H; exact H
    clear H
    have H := H1
    clear H1
    by_cases cC : (i.length : Int) = 0
    ·rw [if_pos cC] at H
     exact absurd H (by simp)
    ·rw [if_neg cC] at H
     have ep : ((i.length : Int) == 0) = false := beq_eq_false_iff_ne.mpr cC
     have eq : ((i.length : Int) != 0) = true := bne_iff_ne.mpr cC
     have er : ¬ (i = []) := fun h_ => cC (by rw [h_]; rfl)
     replace H := Option.bind_eq_some_iff.mp H
     obtain ⟨⟨ac, ad, j, ae, K, L, av, em, ch⟩, ed, H⟩ := H
     replace H : (if em.isNone = true then ((shutterref10_Right.f ay ac ad j ae K L).bind fun aR => (if aR = true then (if av < 0 then (none) else (if av ≥ (i.length : Int) then (none) else (if (j.length : Int) = (i.length : Int) then (if (K != u) = true then (none) else (if (L != v) = true then (none) else (shutterlaw12_PaintGuards.l0 ay 0 A B i D u v x F O P Q R S T ac ad j ae K L))) else (none)))) else (none))) else (some true)) = some r := H
     have cz := Z ed
     clear ed
     rcases em with _ | cw
     ·have H1 : ((shutterref10_Right.f ay ac ad j ae K L).bind fun aR => (if aR = true then (if av < 0 then (none) else (if av ≥ (i.length : Int) then (none) else (if (j.length : Int) = (i.length : Int) then (if (K != u) = true then (none) else (if (L != v) = true then (none) else (shutterlaw12_PaintGuards.l0 ay 0 A B i D u v x F O P Q R S T ac ad j ae K L))) else (none)))) else (none))) = some r := by rw [if_pos (show (none : Option Er).isNone = true by rfl)] at H; exact H
      clear H
      have H := H1
      clear H1
      try simp only [errW_none, errW_some]
      replace H := Option.bind_eq_some_iff.mp H
      obtain ⟨aR, ef, H⟩ := H
      replace H : (if aR = true then (if av < 0 then (none) else (if av ≥ (i.length : Int) then (none) else (if (j.length : Int) = (i.length : Int) then (if (K != u) = true then (none) else (if (L != v) = true then (none) else (shutterlaw12_PaintGuards.l0 ay 0 A B i D u v x F O P Q R S T ac ad j ae K L))) else (none)))) else (none)) = some r := H
      have ee := Z ef
      clear ef
      by_cases cV : aR = true
      ·subst cV
       have H1 : (if av < 0 then (none) else (if av ≥ (i.length : Int) then (none) else (if (j.length : Int) = (i.length : Int) then (if (K != u) = true then (none) else (if (L != v) = true then (none) else (shutterlaw12_PaintGuards.l0 ay 0 A B i D u v x F O P Q R S T ac ad j ae K L))) else (none)))) = some r := by rw [if_pos rfl] at H; exact H
       clear H
       have H := H1
       clear H1
       by_cases cW : av < 0
       ·rw [if_pos cW] at H
        exact absurd H (by simp)
       ·rw [if_neg cW] at H
        have es : decide (av < 0) = false := decide_eq_false cW
        clear cW
        by_cases cX : av ≥ (i.length : Int)
        ·rw [if_pos cX] at H
         exact absurd H (by simp)
        ·rw [if_neg cX] at H
         have et : decide ((i.length : Int) ≤ av) = false := decide_eq_false cX
         clear cX
         by_cases cj : (j.length : Int) = (i.length : Int)
         ·rw [if_pos cj] at H
          have eu : ((j.length : Int) == (i.length : Int)) = true := beq_iff_eq.mpr cj
          have ev : ((j.length : Int) != (i.length : Int)) = false := bne_eq_false_iff_eq.mpr cj
          have ew : (j.length == i.length) = true := by first | simpa using cj | (simp at cj ⊢; omega)
          clear cj
          by_cases cn : (K != u) = true
          ·rw [if_pos cn] at H
           exact absurd H (by simp)
          ·rw [if_neg cn] at H
           have ex : (K != u) = false := by simpa using cn
           (try (have ey : decide (K = u) = true := by simpa using cn))
           (try (have ez : (K == u) = true := by simpa using cn))
           clear cn
           by_cases co : (L != v) = true
           ·rw [if_pos co] at H
            exact absurd H (by simp)
           ·rw [if_neg co] at H
            have eA : (L != v) = false := by simpa using co
            (try (have eB : decide (L = v) = true := by simpa using co))
            (try (have eC : (L == v) = true := by simpa using co))
            clear co
            have H' := Z H
            clear H
            have iS := aa.out
            have jj := ab.out
            obtain ⟨dB, dC, dD, dE, dF, dG, dP, dQ, dR, dS, dT, dU⟩ := cells6 b.out
            obtain ⟨dH, dI, dJ, dK, dL, dM, dN, dO, dV, dW, dX, dY, dZ, d0, d1, d2⟩ := cells8 d.out
            go_wp2_with (first | (go_at_call 16; (with_reducible refine (paint_One.calls ay A B (fun k_ => k_ < w.heap.size) _ _ i D u v (Int.tmod (wrap64 (a1)) (i.length : Int)) x _ _ F O P Q R S T ac ad j ae K L av none ch _ ?side1 ?side2 ?side3 cz.out).mono ?_); (case side1 => exact Kd.V_mk ar.out (Kd.F_below (Kd.C_F k44_heap ag.out) bl_)); (case side2 => repeat (first | exact (Kd.C_below aT.out HB.out) | (with_reducible apply pC))); (case side3 => exact aS.out); rintro e eR ⟨cx, cy, rfl, aC, aD, hb⟩; have y := Z (Kd.V_lower (Kd.V_mono (ok' := fun k_ => k_ ≠ X ∧ k_ ≠ Y) aC (fun k_ hk_ => ⟨Or.elim hk_ (fun hs_ => fun e_ => Nat.not_le.2 hs_ (by rw [e_]; exact aw.out)) (fun hn_ => (fb b.out k_ hn_)), Or.elim hk_ (fun hs_ => fun e_ => Nat.not_le.2 hs_ (by rw [e_]; exact ax.out)) (fun hn_ => (fb d.out k_ hn_))⟩)) (below_size bl_)); have M := Z (Kd.V_lower (Kd.V_mono (ok' := fun k_ => k_ ≠ X ∧ k_ ≠ Y) aD (fun k_ hk_ => ⟨Or.elim hk_ (fun hs_ => fun e_ => Nat.not_le.2 hs_ (by rw [e_]; exact aw.out)) (fun hn_ => (fb b.out k_ hn_)), Or.elim hk_ (fun hs_ => fun e_ => Nat.not_le.2 hs_ (by rw [e_]; exact ax.out)) (fun hn_ => (fb d.out k_ hn_))⟩)) (below_size bl_)); replace b := Z (kb b.out hb); replace d := Z (kb d.out hb); replace HB := Z (below_step bl_ hb); (try clear hb); (try clear ap); (try clear hk); (try clear hi); (try clear aC); (try clear aD); (try simp only [errW_none, errW_some])) | ((with_reducible refine gate_dst (N := 8) rfl ?_); (try (refine gate_guard (by rfl) ?_; dsimp only)); refine bx_ 8 24 #[.int .i64 0, .int .i64 0, .slice none 0 0, .int .i64 0, .bool false, .bool false] ?_; intro l hg eS hbox hb; replace y := Z (ve y.out hg hb); replace M := Z (ve M.out hg hb); have E := Z (hbox); have bB := Z (ln_ hg : w.heap.size ≤ l); have bA := Z (ln_ hg : w.heap.size ≤ l); replace HB := Z (below_step bl_ hb); have I := Z (nl b.out hg); have U := Z (ng b.out hg); replace b := Z (kb b.out hb); have J := Z (nl d.out hg); have W := Z (ng d.out hg); replace d := Z (kb d.out hb); clear hb hbox hg; have dm := U.out; have dt := I.out; have dn := W.out; have du := J.out; obtain ⟨bC, bD, bE, bF, bG, bH, bU, bV, bW, bX, bY, bZ⟩ := cells6 E.out; obtain ⟨aB, au, cu⟩ := Kd.V_slice y.out; subst cu) | (go_at_call 21; (with_reducible refine (shutterref10_Right.calls ay ac ad _ _ j ae K L true _ ?side1 ?side2 ee.out).mono ?_); (case side1 => refine (Kd.V_reads' (e := 44) (base := w.heap.size) (ok := fun k_ => ((k_ ≠ X ∧ k_ ≠ Y) ∧ k_ ≠ l)) (n := j.length) (c := au) ?_).2.2; exact (by (with_reducible repeat apply pV); exact (Kd.V_mono (f6V l (Kd.V_mono y.out (fun k_ hk => (⟨hk, hk.2⟩ : _ ∧ k_ ≠ l))) (fun _ hk => hk.2)) (fun _ h_ => h_.1)))); (case side2 => exact (Kd.V_reads' y.out).2.1); rintro e eT ⟨rfl, hb⟩; replace y := Z (Kd.V_below (by (with_reducible repeat apply pV); exact (Kd.V_mono (f6V l (Kd.V_mono y.out (fun k_ hk => (⟨hk, hk.2⟩ : _ ∧ k_ ≠ l))) (fun _ hk => hk.2)) (fun _ h_ => h_.1))) hb); replace M := Z (Kd.V_below (by (with_reducible repeat apply pV); exact (Kd.V_mono (f6V l (Kd.V_mono M.out (fun k_ hk => (⟨hk, hk.2⟩ : _ ∧ k_ ≠ l))) (fun _ hk => hk.2)) (fun _ h_ => h_.1))) hb); replace b := Z (blk_below (g := X) (o := .cells #[.int .i64 A, .int .i64 B, .slice aL i.length aN, .int .i64 D, .bool u, .bool v] 24 (0, 0)) (by (with_reducible repeat apply pK); exact blk_off b.out I.out off2_) hb); replace d := Z (blk_below (g := Y) (o := .cells #[.int .i64 x, .slice aM F.length aO, .bool O, .bool P, .int .i64 Q, .bool R, .int .i64 S, .int .u8 T] 30 (0, 0)) (by (with_reducible repeat apply pK); exact blk_off d.out J.out off2_) hb); replace E := Z (blk_below (g := l) (o := .cells #[.int .i64 ac, .int .i64 ad, .slice aB j.length au, .int .i64 ae, .bool K, .bool L] 24 (0, 0)) (put6 E.out) hb); replace HB := Z (below_step bl_ hb); (try clear hb); (try clear ap); (try clear hk); (try clear hi); obtain ⟨bI, bJ, bK, bL, bM, bN, b0, b1, b2, b3, b4, b5⟩ := cells6 b.out; obtain ⟨bO, bP, bQ, bR, bS, bT, b6, b7, b8, b9, ca, cb⟩ := cells6 E.out))
            repeat (go_quiet (first | (go_at_call 16; (with_reducible refine (paint_One.calls ay A B (fun k_ => k_ < w.heap.size) _ _ i D u v (Int.tmod (wrap64 (a1)) (i.length : Int)) x _ _ F O P Q R S T ac ad j ae K L av none ch _ ?side1 ?side2 ?side3 cz.out).mono ?_); (case side1 => exact Kd.V_mk ar.out (Kd.F_below (Kd.C_F k44_heap ag.out) bl_)); (case side2 => repeat (first | exact (Kd.C_below aT.out HB.out) | (with_reducible apply pC))); (case side3 => exact aS.out); rintro e eR ⟨cx, cy, rfl, aC, aD, hb⟩; have y := Z (Kd.V_lower (Kd.V_mono (ok' := fun k_ => k_ ≠ X ∧ k_ ≠ Y) aC (fun k_ hk_ => ⟨Or.elim hk_ (fun hs_ => fun e_ => Nat.not_le.2 hs_ (by rw [e_]; exact aw.out)) (fun hn_ => (fb b.out k_ hn_)), Or.elim hk_ (fun hs_ => fun e_ => Nat.not_le.2 hs_ (by rw [e_]; exact ax.out)) (fun hn_ => (fb d.out k_ hn_))⟩)) (below_size bl_)); have M := Z (Kd.V_lower (Kd.V_mono (ok' := fun k_ => k_ ≠ X ∧ k_ ≠ Y) aD (fun k_ hk_ => ⟨Or.elim hk_ (fun hs_ => fun e_ => Nat.not_le.2 hs_ (by rw [e_]; exact aw.out)) (fun hn_ => (fb b.out k_ hn_)), Or.elim hk_ (fun hs_ => fun e_ => Nat.not_le.2 hs_ (by rw [e_]; exact ax.out)) (fun hn_ => (fb d.out k_ hn_))⟩)) (below_size bl_)); replace b := Z (kb b.out hb); replace d := Z (kb d.out hb); replace HB := Z (below_step bl_ hb); (try clear hb); (try clear ap); (try clear hk); (try clear hi); (try clear aC); (try clear aD); (try simp only [errW_none, errW_some])) | ((with_reducible refine gate_dst (N := 8) rfl ?_); (try (refine gate_guard (by rfl) ?_; dsimp only)); refine bx_ 8 24 #[.int .i64 0, .int .i64 0, .slice none 0 0, .int .i64 0, .bool false, .bool false] ?_; intro l hg eS hbox hb; replace y := Z (ve y.out hg hb); replace M := Z (ve M.out hg hb); have E := Z (hbox); have bB := Z (ln_ hg : w.heap.size ≤ l); have bA := Z (ln_ hg : w.heap.size ≤ l); replace HB := Z (below_step bl_ hb); have I := Z (nl b.out hg); have U := Z (ng b.out hg); replace b := Z (kb b.out hb); have J := Z (nl d.out hg); have W := Z (ng d.out hg); replace d := Z (kb d.out hb); clear hb hbox hg; have dm := U.out; have dt := I.out; have dn := W.out; have du := J.out; obtain ⟨bC, bD, bE, bF, bG, bH, bU, bV, bW, bX, bY, bZ⟩ := cells6 E.out; obtain ⟨aB, au, cu⟩ := Kd.V_slice y.out; subst cu) | (go_at_call 21; (with_reducible refine (shutterref10_Right.calls ay ac ad _ _ j ae K L true _ ?side1 ?side2 ee.out).mono ?_); (case side1 => refine (Kd.V_reads' (e := 44) (base := w.heap.size) (ok := fun k_ => ((k_ ≠ X ∧ k_ ≠ Y) ∧ k_ ≠ l)) (n := j.length) (c := au) ?_).2.2; exact (by (with_reducible repeat apply pV); exact (Kd.V_mono (f6V l (Kd.V_mono y.out (fun k_ hk => (⟨hk, hk.2⟩ : _ ∧ k_ ≠ l))) (fun _ hk => hk.2)) (fun _ h_ => h_.1)))); (case side2 => exact (Kd.V_reads' y.out).2.1); rintro e eT ⟨rfl, hb⟩; replace y := Z (Kd.V_below (by (with_reducible repeat apply pV); exact (Kd.V_mono (f6V l (Kd.V_mono y.out (fun k_ hk => (⟨hk, hk.2⟩ : _ ∧ k_ ≠ l))) (fun _ hk => hk.2)) (fun _ h_ => h_.1))) hb); replace M := Z (Kd.V_below (by (with_reducible repeat apply pV); exact (Kd.V_mono (f6V l (Kd.V_mono M.out (fun k_ hk => (⟨hk, hk.2⟩ : _ ∧ k_ ≠ l))) (fun _ hk => hk.2)) (fun _ h_ => h_.1))) hb); replace b := Z (blk_below (g := X) (o := .cells #[.int .i64 A, .int .i64 B, .slice aL i.length aN, .int .i64 D, .bool u, .bool v] 24 (0, 0)) (by (with_reducible repeat apply pK); exact blk_off b.out I.out off2_) hb); replace d := Z (blk_below (g := Y) (o := .cells #[.int .i64 x, .slice aM F.length aO, .bool O, .bool P, .int .i64 Q, .bool R, .int .i64 S, .int .u8 T] 30 (0, 0)) (by (with_reducible repeat apply pK); exact blk_off d.out J.out off2_) hb); replace E := Z (blk_below (g := l) (o := .cells #[.int .i64 ac, .int .i64 ad, .slice aB j.length au, .int .i64 ae, .bool K, .bool L] 24 (0, 0)) (put6 E.out) hb); replace HB := Z (below_step bl_ hb); (try clear hb); (try clear ap); (try clear hk); (try clear hi); obtain ⟨bI, bJ, bK, bL, bM, bN, b0, b1, b2, b3, b4, b5⟩ := cells6 b.out; obtain ⟨bO, bP, bQ, bR, bS, bT, b6, b7, b8, b9, ca, cb⟩ := cells6 E.out)); try go_wp2_with (first | (go_at_call 16; (with_reducible refine (paint_One.calls ay A B (fun k_ => k_ < w.heap.size) _ _ i D u v (Int.tmod (wrap64 (a1)) (i.length : Int)) x _ _ F O P Q R S T ac ad j ae K L av none ch _ ?side1 ?side2 ?side3 cz.out).mono ?_); (case side1 => exact Kd.V_mk ar.out (Kd.F_below (Kd.C_F k44_heap ag.out) bl_)); (case side2 => repeat (first | exact (Kd.C_below aT.out HB.out) | (with_reducible apply pC))); (case side3 => exact aS.out); rintro e eR ⟨cx, cy, rfl, aC, aD, hb⟩; have y := Z (Kd.V_lower (Kd.V_mono (ok' := fun k_ => k_ ≠ X ∧ k_ ≠ Y) aC (fun k_ hk_ => ⟨Or.elim hk_ (fun hs_ => fun e_ => Nat.not_le.2 hs_ (by rw [e_]; exact aw.out)) (fun hn_ => (fb b.out k_ hn_)), Or.elim hk_ (fun hs_ => fun e_ => Nat.not_le.2 hs_ (by rw [e_]; exact ax.out)) (fun hn_ => (fb d.out k_ hn_))⟩)) (below_size bl_)); have M := Z (Kd.V_lower (Kd.V_mono (ok' := fun k_ => k_ ≠ X ∧ k_ ≠ Y) aD (fun k_ hk_ => ⟨Or.elim hk_ (fun hs_ => fun e_ => Nat.not_le.2 hs_ (by rw [e_]; exact aw.out)) (fun hn_ => (fb b.out k_ hn_)), Or.elim hk_ (fun hs_ => fun e_ => Nat.not_le.2 hs_ (by rw [e_]; exact ax.out)) (fun hn_ => (fb d.out k_ hn_))⟩)) (below_size bl_)); replace b := Z (kb b.out hb); replace d := Z (kb d.out hb); replace HB := Z (below_step bl_ hb); (try clear hb); (try clear ap); (try clear hk); (try clear hi); (try clear aC); (try clear aD); (try simp only [errW_none, errW_some])) | ((with_reducible refine gate_dst (N := 8) rfl ?_); (try (refine gate_guard (by rfl) ?_; dsimp only)); refine bx_ 8 24 #[.int .i64 0, .int .i64 0, .slice none 0 0, .int .i64 0, .bool false, .bool false] ?_; intro l hg eS hbox hb; replace y := Z (ve y.out hg hb); replace M := Z (ve M.out hg hb); have E := Z (hbox); have bB := Z (ln_ hg : w.heap.size ≤ l); have bA := Z (ln_ hg : w.heap.size ≤ l); replace HB := Z (below_step bl_ hb); have I := Z (nl b.out hg); have U := Z (ng b.out hg); replace b := Z (kb b.out hb); have J := Z (nl d.out hg); have W := Z (ng d.out hg); replace d := Z (kb d.out hb); clear hb hbox hg; have dm := U.out; have dt := I.out; have dn := W.out; have du := J.out; obtain ⟨bC, bD, bE, bF, bG, bH, bU, bV, bW, bX, bY, bZ⟩ := cells6 E.out; obtain ⟨aB, au, cu⟩ := Kd.V_slice y.out; subst cu) | (go_at_call 21; (with_reducible refine (shutterref10_Right.calls ay ac ad _ _ j ae K L true _ ?side1 ?side2 ee.out).mono ?_); (case side1 => refine (Kd.V_reads' (e := 44) (base := w.heap.size) (ok := fun k_ => ((k_ ≠ X ∧ k_ ≠ Y) ∧ k_ ≠ l)) (n := j.length) (c := au) ?_).2.2; exact (by (with_reducible repeat apply pV); exact (Kd.V_mono (f6V l (Kd.V_mono y.out (fun k_ hk => (⟨hk, hk.2⟩ : _ ∧ k_ ≠ l))) (fun _ hk => hk.2)) (fun _ h_ => h_.1)))); (case side2 => exact (Kd.V_reads' y.out).2.1); rintro e eT ⟨rfl, hb⟩; replace y := Z (Kd.V_below (by (with_reducible repeat apply pV); exact (Kd.V_mono (f6V l (Kd.V_mono y.out (fun k_ hk => (⟨hk, hk.2⟩ : _ ∧ k_ ≠ l))) (fun _ hk => hk.2)) (fun _ h_ => h_.1))) hb); replace M := Z (Kd.V_below (by (with_reducible repeat apply pV); exact (Kd.V_mono (f6V l (Kd.V_mono M.out (fun k_ hk => (⟨hk, hk.2⟩ : _ ∧ k_ ≠ l))) (fun _ hk => hk.2)) (fun _ h_ => h_.1))) hb); replace b := Z (blk_below (g := X) (o := .cells #[.int .i64 A, .int .i64 B, .slice aL i.length aN, .int .i64 D, .bool u, .bool v] 24 (0, 0)) (by (with_reducible repeat apply pK); exact blk_off b.out I.out off2_) hb); replace d := Z (blk_below (g := Y) (o := .cells #[.int .i64 x, .slice aM F.length aO, .bool O, .bool P, .int .i64 Q, .bool R, .int .i64 S, .int .u8 T] 30 (0, 0)) (by (with_reducible repeat apply pK); exact blk_off d.out J.out off2_) hb); replace E := Z (blk_below (g := l) (o := .cells #[.int .i64 ac, .int .i64 ad, .slice aB j.length au, .int .i64 ae, .bool K, .bool L] 24 (0, 0)) (put6 E.out) hb); replace HB := Z (below_step bl_ hb); (try clear hb); (try clear ap); (try clear hk); (try clear hi); obtain ⟨bI, bJ, bK, bL, bM, bN, b0, b1, b2, b3, b4, b5⟩ := cells6 b.out; obtain ⟨bO, bP, bQ, bR, bS, bT, b6, b7, b8, b9, ca, cb⟩ := cells6 E.out)))
            go_loopg [11] ay (fun kq iF w' => ∃ (a : Int), iF = .int .i64 a ∧ Aside0 (shutterlaw12_PaintGuards.l0 kq a A B i D u v x F O P Q R S T ac ad j ae K L = some r) ∧ Aside0 (kq ≤ ay) ∧ Aside0 (Kd.V k44 44 w' w.heap.size (fun k_ => k_ ≠ X ∧ k_ ≠ Y ∧ k_ ≠ l) (.slice aB j.length au) j) ∧ Aside0 (w'.heap[X]? = some (.cells #[.int .i64 A, .int .i64 B, (.slice aL i.length aN), .int .i64 D, .bool u, .bool v] 24 (0, 0))) ∧ Aside0 (w'.heap[Y]? = some (.cells #[.int .i64 x, (.slice aM F.length aO), .bool O, .bool P, .int .i64 Q, .bool R, .int .i64 S, .int .u8 T] 30 (0, 0))) ∧ Aside0 (w'.heap[l]? = some (.cells #[.int .i64 ac, .int .i64 ad, (.slice aB j.length au), .int .i64 ae, .bool K, .bool L] 24 (0, 0))) ∧ Aside0 (Below w.heap.size w w'))
            case atStart => exact ⟨(0), (dn_), H', ⟨Nat.le_refl _⟩, ⟨by (with_reducible repeat apply pV); exact Kd.V_mono y.out (fun _ hk => ⟨hk.1.1, ⟨hk.1.2, hk.2⟩⟩)⟩, ⟨vK b.out⟩, ⟨vK d.out⟩, ⟨vK E.out⟩, ⟨bl_⟩⟩
            case round =>
             clear H'
             try clear c1
             try clear c2
             try clear p2
             try clear c3
             try clear q3
             try clear c4
             try clear p6
             try clear c8
             try clear c10
             try clear iD
             try clear iE
             try clear cU
             try clear cC
             try clear ep
             try clear eq
             try clear er
             try clear cV
             try clear cW
             try clear es
             try clear cX
             try clear et
             try clear cj
             try clear eu
             try clear ev
             try clear ew
             try clear cn
             try clear ex
             try clear ey
             try clear ez
             try clear co
             try clear eA
             try clear eB
             try clear eC
             try clear jF
             try clear jI
             try clear jG
             try clear jH
             try clear aU
             try clear aV
             try clear aW
             try clear aX
             try clear aY
             try clear aZ
             try clear a0
             try clear a2
             try clear a3
             try clear a4
             try clear a5
             try clear a6
             try clear a7
             try clear a8
             try clear a9
             try clear ba
             try clear bb
             try clear bc
             try clear bd
             try clear be
             try clear dB
             try clear dC
             try clear dD
             try clear dE
             try clear dF
             try clear dG
             try clear dH
             try clear dI
             try clear dJ
             try clear dK
             try clear dL
             try clear dM
             try clear dN
             try clear dO
             try clear bC
             try clear bD
             try clear bE
             try clear bF
             try clear bG
             try clear bH
             try clear bI
             try clear bJ
             try clear bK
             try clear bL
             try clear bM
             try clear bN
             try clear bO
             try clear bP
             try clear bQ
             try clear bR
             try clear bS
             try clear bT
             try clear bf
             try clear bg
             try clear bh
             try clear bi
             try clear bj
             try clear bk
             try clear bl
             try clear bm
             try clear bn
             try clear bo
             try clear bp
             try clear bq
             try clear br
             try clear bs
             try clear bt
             try clear bu
             try clear bv
             try clear bw
             try clear bx
             try clear bz
             try clear dP
             try clear dQ
             try clear dR
             try clear dS
             try clear dT
             try clear dU
             try clear dV
             try clear dW
             try clear dX
             try clear dY
             try clear dZ
             try clear d0
             try clear d1
             try clear d2
             try clear bU
             try clear bV
             try clear bW
             try clear bX
             try clear bY
             try clear bZ
             try clear b0
             try clear b1
             try clear b2
             try clear b3
             try clear b4
             try clear b5
             try clear b6
             try clear b7
             try clear b8
             try clear b9
             try clear ca
             try clear cb
             try clear p2
             try clear cw
             obtain ⟨a, rfl, HA, cB, HO_336002, b, d, E, HB⟩ := hrel
             cases gk with
             | zero => exact absurd HA.out (by simp [shutterlaw12_PaintGuards.l0])
             | succ k2 =>
              have H := HA.out
              clear HA
              simp only [shutterlaw12_PaintGuards.l0] at H
              by_cases cD : a < (i.length : Int)
              ·rw [if_pos cD] at H
               have eD : decide (a < (i.length : Int)) = true := decide_eq_true cD
               clear cD
               by_cases db : 0 ≤ a
               ·rw [if_pos db] at H
                have iH : decide (0 ≤ a) = true := decide_eq_true db
                clear db
                by_cases dc : a < (j.length : Int)
                ·rw [if_pos dc] at H
                 have iI : decide (a < (j.length : Int)) = true := decide_eq_true dc
                 clear dc
                 by_cases aP : (((rd_T44 j a).f0) == ((rd_T44 i a).f0) && ((((rd_T44 j a).f1.f0) == ((rd_T44 i a).f1.f0) && (((rd_T44 j a).f1.f1) == ((rd_T44 i a).f1.f1) && (((rd_T44 j a).f1.f2) == ((rd_T44 i a).f1.f2) && (((rd_T44 j a).f1.f3) == ((rd_T44 i a).f1.f3))))) && (((rd_T44 j a).f2) == ((rd_T44 i a).f2)))) = true
                 ·rw [if_pos aP] at H
                  have cl : (((rd_T44 j a).f0) == ((rd_T44 i a).f0) && ((((rd_T44 j a).f1.f0) == ((rd_T44 i a).f1.f0) && (((rd_T44 j a).f1.f1) == ((rd_T44 i a).f1.f1) && (((rd_T44 j a).f1.f2) == ((rd_T44 i a).f1.f2) && (((rd_T44 j a).f1.f3) == ((rd_T44 i a).f1.f3))))) && (((rd_T44 j a).f2) == ((rd_T44 i a).f2)))) = true := aP
                  (try (have eE : decide (((rd_T44 j a).f0) = ((rd_T44 i a).f0) && ((((rd_T44 j a).f1.f0) == ((rd_T44 i a).f1.f0) && (((rd_T44 j a).f1.f1) == ((rd_T44 i a).f1.f1) && (((rd_T44 j a).f1.f2) == ((rd_T44 i a).f1.f2) && (((rd_T44 j a).f1.f3) == ((rd_T44 i a).f1.f3))))) && (((rd_T44 j a).f2) == ((rd_T44 i a).f2)))) = true := by simpa using aP))
                  (try (have eF : (((rd_T44 j a).f0) == ((rd_T44 i a).f0) && ((((rd_T44 j a).f1.f0) == ((rd_T44 i a).f1.f0) && (((rd_T44 j a).f1.f1) == ((rd_T44 i a).f1.f1) && (((rd_T44 j a).f1.f2) == ((rd_T44 i a).f1.f2) && (((rd_T44 j a).f1.f3) == ((rd_T44 i a).f1.f3))))) && (((rd_T44 j a).f2) == ((rd_T44 i a).f2)))) = true := by simpa using aP))
                  clear aP
                  have H' := Z H
                  clear H
                  have iT := aa.out
                  have jk := ab.out
                  have iU := I.out
                  have jl := U.out
                  obtain ⟨eZ, e0, e1, e2, e3, e4, gN, gO, gP, gQ, gR, gS⟩ := cells6 b.out
                  have iV := W.out
                  have jm := J.out
                  obtain ⟨e5, e6, e7, e8, e9, fa, gT, gU, gV, gW, gX, gY⟩ := cells6 E.out
                  have aH : 0 ≤ (a : Int) := od_
                  have aJ : a < (j.length : Int) := od_
                  obtain ⟨ck, cr, cc, cd, ce, cQ, cf, cR⟩ := at_T44 (Kd.V_reads' HO_336002.out).2.2 a aH aJ
                  cases cr
                  replace aH := eq_true aH
                  replace aJ := eq_true aJ
                  have aI : 0 ≤ (a : Int) := od_
                  have aK : a < (i.length : Int) := od_
                  obtain ⟨da, ct, aj, ak, al, an, am, ao⟩ := at_T44 ag.out a aI aK
                  cases ct
                  replace aj := (HB.out.cell (bk_ w _ aj)).trans aj
                  replace ak := (HB.out.cell (bk_ w _ ak)).trans ak
                  replace al := (HB.out.cell (bk_ w _ al)).trans al
                  replace an := (HB.out.cell (bk_ w _ an)).trans an
                  replace am := (HB.out.cell (bk_ w _ am)).trans am
                  replace ao := (HB.out.cell (bk_ w _ ao)).trans ao
                  replace aI := eq_true aI
                  replace aK := eq_true aK
                  go_wp2
                  repeat (go_quiet (fail); try go_wp2)
                  go_roundg k2
                  case measure => have := cA.out; have := cB.out; omega
                  case rel => exact ⟨(wrap64 (a + 1)), (dn_), H', ⟨by have := cA.out; have := cB.out; omega⟩, ⟨vV HO_336002.out⟩, ⟨vK b.out⟩, ⟨vK d.out⟩, ⟨vK E.out⟩, ⟨bl_⟩⟩
                 ·rw [if_neg aP] at H
                  have cl : (((rd_T44 j a).f0) == ((rd_T44 i a).f0) && ((((rd_T44 j a).f1.f0) == ((rd_T44 i a).f1.f0) && (((rd_T44 j a).f1.f1) == ((rd_T44 i a).f1.f1) && (((rd_T44 j a).f1.f2) == ((rd_T44 i a).f1.f2) && (((rd_T44 j a).f1.f3) == ((rd_T44 i a).f1.f3))))) && (((rd_T44 j a).f2) == ((rd_T44 i a).f2)))) = false := by simpa using aP
                  (try (have eE : decide (((rd_T44 j a).f0) = ((rd_T44 i a).f0) && ((((rd_T44 j a).f1.f0) == ((rd_T44 i a).f1.f0) && (((rd_T44 j a).f1.f1) == ((rd_T44 i a).f1.f1) && (((rd_T44 j a).f1.f2) == ((rd_T44 i a).f1.f2) && (((rd_T44 j a).f1.f3) == ((rd_T44 i a).f1.f3))))) && (((rd_T44 j a).f2) == ((rd_T44 i a).f2)))) = false := by simpa using aP))
                  (try (have eF : (((rd_T44 j a).f0) == ((rd_T44 i a).f0) && ((((rd_T44 j a).f1.f0) == ((rd_T44 i a).f1.f0) && (((rd_T44 j a).f1.f1) == ((rd_T44 i a).f1.f1) && (((rd_T44 j a).f1.f2) == ((rd_T44 i a).f1.f2) && (((rd_T44 j a).f1.f3) == ((rd_T44 i a).f1.f3))))) && (((rd_T44 j a).f2) == ((rd_T44 i a).f2)))) = false := by simpa using aP))
                  (try (have iJ : ¬ (((rd_T44 j a).f0) = ((rd_T44 i a).f0) && ((((rd_T44 j a).f1.f0) == ((rd_T44 i a).f1.f0) && (((rd_T44 j a).f1.f1) == ((rd_T44 i a).f1.f1) && (((rd_T44 j a).f1.f2) == ((rd_T44 i a).f1.f2) && (((rd_T44 j a).f1.f3) == ((rd_T44 i a).f1.f3))))) && (((rd_T44 j a).f2) == ((rd_T44 i a).f2)))) := by simpa using aP))
                  clear aP
                  by_cases dd : x = 3
                  ·rw [if_pos dd] at H
                   exact absurd H (by simp)
                  ·rw [if_neg dd] at H
                   have iK : (x == 3) = false := beq_eq_false_iff_ne.mpr dd
                   have iL : (x != 3) = true := bne_iff_ne.mpr dd
                   by_cases de : x = 4
                   ·rw [if_pos de] at H
                    exact absurd H (by simp)
                   ·rw [if_neg de] at H
                    have iM : (x == 4) = false := beq_eq_false_iff_ne.mpr de
                    have iN : (x != 4) = true := bne_iff_ne.mpr de
                    by_cases df : x = 5
                    ·rw [if_pos df] at H
                     exact absurd H (by simp)
                    ·rw [if_neg df] at H
                     have iO : (x == 5) = false := beq_eq_false_iff_ne.mpr df
                     have iP : (x != 5) = true := bne_iff_ne.mpr df
                     by_cases cp : x = 7
                     ·rw [if_pos cp] at H
                      have eG : (x == 7) = true := beq_iff_eq.mpr cp
                      have eH : (x != 7) = false := bne_eq_false_iff_eq.mpr cp
                      clear cp
                      obtain ⟨ek, cS⟩ : ∃ b_ : Bool, b_ = ((rd_T44 j a).f0) := ⟨_, rfl⟩
                      replace H : (if ek = true then (none) else (if ((rd_T44 j a).f2) = 0 then ((shutterref11_Open.f k2 A B i D u v a).bind fun ci => (if ci = true then (shutterlaw12_PaintGuards.l0 k2 (wrap64 (a + 1)) A B i D u v x F O P Q R S T ac ad j ae K L) else (none))) else (none))) = some r := by rw [← cS] at H; exact H
                      have ah := Z cS
                      clear cS
                      by_cases dg : ek = true
                      ·subst dg
                       have H1 : (none) = some r := by rw [if_pos rfl] at H; exact H
                       clear H
                       have H := H1
                       clear H1
                       exact absurd H (by simp)
                      ·replace dg := Bool.eq_false_iff.mpr dg
                       subst dg
                       have H1 : (if ((rd_T44 j a).f2) = 0 then ((shutterref11_Open.f k2 A B i D u v a).bind fun ci => (if ci = true then (shutterlaw12_PaintGuards.l0 k2 (wrap64 (a + 1)) A B i D u v x F O P Q R S T ac ad j ae K L) else (none))) else (none)) = some r := by rw [if_neg (show ¬ (false = true) by decide)] at H; exact H
                       clear H
                       have H := H1
                       clear H1
                       by_cases cY : ((rd_T44 j a).f2) = 0
                       ·rw [if_pos cY] at H
                        have iQ : (((rd_T44 j a).f2) == 0) = true := beq_iff_eq.mpr cY
                        have iR : (((rd_T44 j a).f2) != 0) = false := bne_eq_false_iff_eq.mpr cY
                        clear cY
                        replace H := Option.bind_eq_some_iff.mp H
                        obtain ⟨ci, eh, H⟩ := H
                        replace H : (if ci = true then (shutterlaw12_PaintGuards.l0 k2 (wrap64 (a + 1)) A B i D u v x F O P Q R S T ac ad j ae K L) else (none)) = some r := H
                        have eg := Z eh
                        clear eh
                        by_cases dh : ci = true
                        ·subst dh
                         have H1 : (shutterlaw12_PaintGuards.l0 k2 (wrap64 (a + 1)) A B i D u v x F O P Q R S T ac ad j ae K L) = some r := by rw [if_pos rfl] at H; exact H
                         clear H
                         have H := H1
                         clear H1
                         have H' := Z H
                         clear H
                         have iW := aa.out
                         have jn := ab.out
                         have iX := I.out
                         have jo := U.out
                         obtain ⟨fc, fd, fe, ff, fg, fh, gZ, g0, g1, g2, g3, g4⟩ := cells6 b.out
                         have iY := W.out
                         have jp := J.out
                         obtain ⟨fi, fj, fk, fl, fm, fn, g5, g6, g7, g8, g9, ha⟩ := cells6 E.out
                         have aH : 0 ≤ (a : Int) := od_
                         have aJ : a < (j.length : Int) := od_
                         obtain ⟨ck, cr, cc, cd, ce, cQ, cf, cR⟩ := at_T44 (Kd.V_reads' HO_336002.out).2.2 a aH aJ
                         (try rw [← ah.out] at cc)
                         (try rw [← ah.out] at cd)
                         (try rw [← ah.out] at ce)
                         (try rw [← ah.out] at cf)
                         cases cr
                         replace aH := eq_true aH
                         replace aJ := eq_true aJ
                         have aI : 0 ≤ (a : Int) := od_
                         have aK : a < (i.length : Int) := od_
                         obtain ⟨da, ct, aj, ak, al, an, am, ao⟩ := at_T44 ag.out a aI aK
                         (try rw [← ah.out] at aj)
                         (try rw [← ah.out] at ak)
                         (try rw [← ah.out] at al)
                         (try rw [← ah.out] at am)
                         cases ct
                         replace aj := (HB.out.cell (bk_ w _ aj)).trans aj
                         replace ak := (HB.out.cell (bk_ w _ ak)).trans ak
                         replace al := (HB.out.cell (bk_ w _ al)).trans al
                         replace an := (HB.out.cell (bk_ w _ an)).trans an
                         replace am := (HB.out.cell (bk_ w _ am)).trans am
                         replace ao := (HB.out.cell (bk_ w _ ao)).trans ao
                         replace aI := eq_true aI
                         replace aK := eq_true aK
                         obtain ⟨fo, fp, fq, fr, fs, ft, fu, fv, hc, he, hf, hh, hj, hl, hm, hn⟩ := cells8 d.out
                         have cZ : 0 ≤ (a : Int) := od_
                         have c5 : a < (j.length : Int) := od_
                         obtain ⟨en, eX, d3, d4, d5, iz, d6, iA⟩ := at_T44 (Kd.V_reads' HO_336002.out).2.2 a cZ c5
                         (try rw [← ah.out] at d3)
                         (try rw [← ah.out] at d4)
                         (try rw [← ah.out] at d5)
                         (try rw [← ah.out] at d6)
                         obtain rfl : ck = en := (by injection eX)
                         replace cZ := eq_true cZ
                         replace c5 := eq_true c5
                         have c0 : 0 ≤ (a : Int) := od_
                         have c6 : a < (j.length : Int) := od_
                         obtain ⟨eo, eY, d7, d8, d9, iB, ea, iC⟩ := at_T44 (Kd.V_reads' HO_336002.out).2.2 a c0 c6
                         (try rw [← ah.out] at d7)
                         (try rw [← ah.out] at d8)
                         (try rw [← ah.out] at d9)
                         (try rw [← ah.out] at ea)
                         obtain rfl : ck = eo := (by injection eY)
                         replace c0 := eq_true c0
                         replace c6 := eq_true c6
                         go_wp2_with (first | (go_at_call 22; (with_reducible refine (shutterref11_Open.calls k2 A B _ _ i D u v a true _ ?side1 ?side2 eg.out).mono ?_); (case side1 => repeat (first | exact (Kd.C_below ag.out HB.out) | (with_reducible apply pC))); (case side2 => exact ar.out); rintro e eU ⟨rfl, hb⟩; replace HO_336002 := Z (vb HO_336002.out hb); replace b := Z (kb b.out hb); replace d := Z (kb d.out hb); replace E := Z (kb E.out hb); replace HB := Z (below_step bl_ hb); (try clear hb); (try clear ap); (try clear hk); (try clear hi)))
                         any_goals (first | (exfalso; rename_i hq_; exact Bool.noConfusion ((show (((rd_T44 j a).f0) == ((rd_T44 i a).f0) && ((((rd_T44 j a).f1.f0) == ((rd_T44 i a).f1.f0) && (((rd_T44 j a).f1.f1) == ((rd_T44 i a).f1.f1) && (((rd_T44 j a).f1.f2) == ((rd_T44 i a).f1.f2) && (((rd_T44 j a).f1.f3) == ((rd_T44 i a).f1.f3))))) && (((rd_T44 j a).f2) == ((rd_T44 i a).f2)))) = true by simpa [← ah.out] using hq_).symm.trans cl)) | skip)
                         repeat (go_quiet (first | (go_at_call 22; (with_reducible refine (shutterref11_Open.calls k2 A B _ _ i D u v a true _ ?side1 ?side2 eg.out).mono ?_); (case side1 => repeat (first | exact (Kd.C_below ag.out HB.out) | (with_reducible apply pC))); (case side2 => exact ar.out); rintro e eU ⟨rfl, hb⟩; replace HO_336002 := Z (vb HO_336002.out hb); replace b := Z (kb b.out hb); replace d := Z (kb d.out hb); replace E := Z (kb E.out hb); replace HB := Z (below_step bl_ hb); (try clear hb); (try clear ap); (try clear hk); (try clear hi))); try go_wp2_with (first | (go_at_call 22; (with_reducible refine (shutterref11_Open.calls k2 A B _ _ i D u v a true _ ?side1 ?side2 eg.out).mono ?_); (case side1 => repeat (first | exact (Kd.C_below ag.out HB.out) | (with_reducible apply pC))); (case side2 => exact ar.out); rintro e eU ⟨rfl, hb⟩; replace HO_336002 := Z (vb HO_336002.out hb); replace b := Z (kb b.out hb); replace d := Z (kb d.out hb); replace E := Z (kb E.out hb); replace HB := Z (below_step bl_ hb); (try clear hb); (try clear ap); (try clear hk); (try clear hi))))
                         any_goals (first | (exfalso; rename_i hq_; exact Bool.noConfusion ((show (((rd_T44 j a).f0) == ((rd_T44 i a).f0) && ((((rd_T44 j a).f1.f0) == ((rd_T44 i a).f1.f0) && (((rd_T44 j a).f1.f1) == ((rd_T44 i a).f1.f1) && (((rd_T44 j a).f1.f2) == ((rd_T44 i a).f1.f2) && (((rd_T44 j a).f1.f3) == ((rd_T44 i a).f1.f3))))) && (((rd_T44 j a).f2) == ((rd_T44 i a).f2)))) = true by simpa [← ah.out] using hq_).symm.trans cl)) | skip)
                         go_roundg k2
                         case measure => have := cA.out; have := cB.out; omega
                         case rel => exact ⟨(wrap64 (a + 1)), (dn_), H', ⟨by have := cA.out; have := cB.out; omega⟩, ⟨vV HO_336002.out⟩, ⟨vK b.out⟩, ⟨vK d.out⟩, ⟨vK E.out⟩, ⟨bl_⟩⟩
                        ·replace dh := Bool.eq_false_iff.mpr dh
                         subst dh
                         have H1 : (none) = some r := by rw [if_neg (show ¬ (false = true) by decide)] at H; exact H
                         clear H
                         have H := H1
                         clear H1
                         exact absurd H (by simp)
                       ·rw [if_neg cY] at H
                        exact absurd H (by simp)
                     ·rw [if_neg cp] at H
                      have eG : (x == 7) = false := beq_eq_false_iff_ne.mpr cp
                      have eH : (x != 7) = true := bne_iff_ne.mpr cp
                      have H' := Z H
                      clear H
                      have iZ := aa.out
                      have jq := ab.out
                      have ja := I.out
                      have jr := U.out
                      obtain ⟨fw, fx, fy, fz, fA, fB, ho, hp, hq, hs, ht, hu⟩ := cells6 b.out
                      have jb := W.out
                      have js := J.out
                      obtain ⟨fC, fD, fE, fF, fG, fH, hv, hw, hx, hy, hz, hA⟩ := cells6 E.out
                      have aH : 0 ≤ (a : Int) := od_
                      have aJ : a < (j.length : Int) := od_
                      obtain ⟨ck, cr, cc, cd, ce, cQ, cf, cR⟩ := at_T44 (Kd.V_reads' HO_336002.out).2.2 a aH aJ
                      cases cr
                      replace aH := eq_true aH
                      replace aJ := eq_true aJ
                      have aI : 0 ≤ (a : Int) := od_
                      have aK : a < (i.length : Int) := od_
                      obtain ⟨da, ct, aj, ak, al, an, am, ao⟩ := at_T44 ag.out a aI aK
                      cases ct
                      replace aj := (HB.out.cell (bk_ w _ aj)).trans aj
                      replace ak := (HB.out.cell (bk_ w _ ak)).trans ak
                      replace al := (HB.out.cell (bk_ w _ al)).trans al
                      replace an := (HB.out.cell (bk_ w _ an)).trans an
                      replace am := (HB.out.cell (bk_ w _ am)).trans am
                      replace ao := (HB.out.cell (bk_ w _ ao)).trans ao
                      replace aI := eq_true aI
                      replace aK := eq_true aK
                      obtain ⟨fI, fJ, fK, fL, fM, fN, fO, fP, hB, hC, hD, hE, hF, hH, hI, hJ⟩ := cells8 d.out
                      go_wp2
                      repeat (go_quiet (fail); try go_wp2)
                      any_goals (first | (exfalso; rename_i hq_; exact Bool.noConfusion ((show (((rd_T44 j a).f0) == ((rd_T44 i a).f0) && ((((rd_T44 j a).f1.f0) == ((rd_T44 i a).f1.f0) && (((rd_T44 j a).f1.f1) == ((rd_T44 i a).f1.f1) && (((rd_T44 j a).f1.f2) == ((rd_T44 i a).f1.f2) && (((rd_T44 j a).f1.f3) == ((rd_T44 i a).f1.f3))))) && (((rd_T44 j a).f2) == ((rd_T44 i a).f2)))) = true by simpa using hq_).symm.trans cl)) | skip)
                      go_roundg k2
                      case measure => have := cA.out; have := cB.out; omega
                      case rel => exact ⟨(wrap64 (a + 1)), (dn_), H', ⟨by have := cA.out; have := cB.out; omega⟩, ⟨vV HO_336002.out⟩, ⟨vK b.out⟩, ⟨vK d.out⟩, ⟨vK E.out⟩, ⟨bl_⟩⟩
                ·rw [if_neg dc] at H
                 exact absurd H (by simp)
               ·rw [if_neg db] at H
                exact absurd H (by simp)
              ·rw [if_neg cD] at H
               have eD : decide (a < (i.length : Int)) = false := decide_eq_false cD
               clear cD
               by_cases cq : x = 4
               ·rw [if_pos cq] at H
                have eI : (x == 4) = true := beq_iff_eq.mpr cq
                have eJ : (x != 4) = false := bne_eq_false_iff_eq.mpr cq
                clear cq
                obtain rfl := Option.some.inj H
                have jc := aa.out
                have jt := ab.out
                have jd := I.out
                have ju := U.out
                obtain ⟨fQ, fR, fS, fT, fU, fV, hK, hL, hM, hN, hO, hP⟩ := cells6 b.out
                have je := J.out
                have jv := W.out
                obtain ⟨fW, fX, fY, fZ, ga, gb, gc, gd, hQ, hR, hS, hT, hU, hV, hW, hX⟩ := cells8 d.out
                go_wp2
                repeat (go_quiet (fail); try go_wp2)
                go_ret
                exact ⟨er_, bl_⟩
               ·rw [if_neg cq] at H
                have eI : (x == 4) = false := beq_eq_false_iff_ne.mpr cq
                have eJ : (x != 4) = true := bne_iff_ne.mpr cq
                obtain rfl := Option.some.inj H
                have jf := aa.out
                have jw := ab.out
                have jg := I.out
                have jx := U.out
                obtain ⟨ge, gf, gg, gh, gi, gj, hY, hZ, h0, h1, h2, h3⟩ := cells6 b.out
                have jh := J.out
                have jy := W.out
                obtain ⟨gl, gm, gn, go, gp, gq, gr, gs, h4, h5, h6, h7, h8, h9, ia, ib⟩ := cells8 d.out
                obtain ⟨gt, gu, gv, gw, gx, gy, ic, id, ie, ig, ih, ii⟩ := cells6 E.out
                go_wp2
                repeat (go_quiet (fail); try go_wp2)
                go_ret
                exact ⟨er_, bl_⟩
         ·rw [if_neg cj] at H
          exact absurd H (by simp)
      ·replace cV := Bool.eq_false_iff.mpr cV
       subst cV
       have H1 : (none) = some r := by rw [if_neg (show ¬ (false = true) by decide)] at H; exact H
       clear H
       have H := H1
       clear H1
       exact absurd H (by simp)
     ·have H1 : (some true) = some r := by rw [if_neg (show ¬ (some cw).isNone = true by simp)] at H; exact H
      clear H
      have H := H1
      clear H1
      try simp only [errW_none, errW_some]
      obtain rfl := Option.some.inj H
      have ji := aa.out
      have jz := ab.out
      obtain ⟨gz, gA, gB, gC, gD, gE, ij, ik, il, im, io, ip⟩ := cells6 b.out
      obtain ⟨gF, gG, gH, gI, gJ, gK, gL, gM, iq, ir, it, iu, iv, iw, ix, iy⟩ := cells8 d.out
      go_wp2_with (first | (go_at_call 16; (with_reducible refine (paint_One.calls ay A B (fun k_ => k_ < w.heap.size) _ _ i D u v (Int.tmod (wrap64 (a1)) (i.length : Int)) x _ _ F O P Q R S T ac ad j ae K L av (some cw) ch _ ?side1 ?side2 ?side3 cz.out).mono ?_); (case side1 => exact Kd.V_mk ar.out (Kd.F_below (Kd.C_F k44_heap ag.out) bl_)); (case side2 => repeat (first | exact (Kd.C_below aT.out HB.out) | (with_reducible apply pC))); (case side3 => exact aS.out); rintro e eV ⟨cx, cy, rfl, aC, aD, hb⟩; have y := Z (Kd.V_lower (Kd.V_mono (ok' := fun k_ => k_ ≠ X ∧ k_ ≠ Y) aC (fun k_ hk_ => ⟨Or.elim hk_ (fun hs_ => fun e_ => Nat.not_le.2 hs_ (by rw [e_]; exact aw.out)) (fun hn_ => (fb b.out k_ hn_)), Or.elim hk_ (fun hs_ => fun e_ => Nat.not_le.2 hs_ (by rw [e_]; exact ax.out)) (fun hn_ => (fb d.out k_ hn_))⟩)) (below_size bl_)); have M := Z (Kd.V_lower (Kd.V_mono (ok' := fun k_ => k_ ≠ X ∧ k_ ≠ Y) aD (fun k_ hk_ => ⟨Or.elim hk_ (fun hs_ => fun e_ => Nat.not_le.2 hs_ (by rw [e_]; exact aw.out)) (fun hn_ => (fb b.out k_ hn_)), Or.elim hk_ (fun hs_ => fun e_ => Nat.not_le.2 hs_ (by rw [e_]; exact ax.out)) (fun hn_ => (fb d.out k_ hn_))⟩)) (below_size bl_)); replace b := Z (kb b.out hb); replace d := Z (kb d.out hb); replace HB := Z (below_step bl_ hb); (try clear hb); (try clear ap); (try clear hk); (try clear hi); (try clear aC); (try clear aD); (try simp only [errW_none, errW_some])) | ((with_reducible refine gate_dst (N := 8) rfl ?_); (try (refine gate_guard (by rfl) ?_; dsimp only)); refine bx_ 8 24 #[.int .i64 0, .int .i64 0, .slice none 0 0, .int .i64 0, .bool false, .bool false] ?_; intro l hg eW hbox hb; replace y := Z (ve y.out hg hb); replace M := Z (ve M.out hg hb); have E := Z (hbox); have bB := Z (ln_ hg : w.heap.size ≤ l); have bA := Z (ln_ hg : w.heap.size ≤ l); replace HB := Z (below_step bl_ hb); have I := Z (nl b.out hg); have U := Z (ng b.out hg); replace b := Z (kb b.out hb); have J := Z (nl d.out hg); have W := Z (ng d.out hg); replace d := Z (kb d.out hb); clear hb hbox hg; have dp := U.out; have dv := I.out; have dq := W.out; have dw := J.out; obtain ⟨cE, cF, cG, cH, cI, cJ, cK, cL, cM, cN, cO, cP⟩ := cells6 E.out; obtain ⟨ei, el, cv⟩ := Kd.V_slice y.out; subst cv))
      repeat (go_quiet (first | (go_at_call 16; (with_reducible refine (paint_One.calls ay A B (fun k_ => k_ < w.heap.size) _ _ i D u v (Int.tmod (wrap64 (a1)) (i.length : Int)) x _ _ F O P Q R S T ac ad j ae K L av (some cw) ch _ ?side1 ?side2 ?side3 cz.out).mono ?_); (case side1 => exact Kd.V_mk ar.out (Kd.F_below (Kd.C_F k44_heap ag.out) bl_)); (case side2 => repeat (first | exact (Kd.C_below aT.out HB.out) | (with_reducible apply pC))); (case side3 => exact aS.out); rintro e eV ⟨cx, cy, rfl, aC, aD, hb⟩; have y := Z (Kd.V_lower (Kd.V_mono (ok' := fun k_ => k_ ≠ X ∧ k_ ≠ Y) aC (fun k_ hk_ => ⟨Or.elim hk_ (fun hs_ => fun e_ => Nat.not_le.2 hs_ (by rw [e_]; exact aw.out)) (fun hn_ => (fb b.out k_ hn_)), Or.elim hk_ (fun hs_ => fun e_ => Nat.not_le.2 hs_ (by rw [e_]; exact ax.out)) (fun hn_ => (fb d.out k_ hn_))⟩)) (below_size bl_)); have M := Z (Kd.V_lower (Kd.V_mono (ok' := fun k_ => k_ ≠ X ∧ k_ ≠ Y) aD (fun k_ hk_ => ⟨Or.elim hk_ (fun hs_ => fun e_ => Nat.not_le.2 hs_ (by rw [e_]; exact aw.out)) (fun hn_ => (fb b.out k_ hn_)), Or.elim hk_ (fun hs_ => fun e_ => Nat.not_le.2 hs_ (by rw [e_]; exact ax.out)) (fun hn_ => (fb d.out k_ hn_))⟩)) (below_size bl_)); replace b := Z (kb b.out hb); replace d := Z (kb d.out hb); replace HB := Z (below_step bl_ hb); (try clear hb); (try clear ap); (try clear hk); (try clear hi); (try clear aC); (try clear aD); (try simp only [errW_none, errW_some])) | ((with_reducible refine gate_dst (N := 8) rfl ?_); (try (refine gate_guard (by rfl) ?_; dsimp only)); refine bx_ 8 24 #[.int .i64 0, .int .i64 0, .slice none 0 0, .int .i64 0, .bool false, .bool false] ?_; intro l hg eW hbox hb; replace y := Z (ve y.out hg hb); replace M := Z (ve M.out hg hb); have E := Z (hbox); have bB := Z (ln_ hg : w.heap.size ≤ l); have bA := Z (ln_ hg : w.heap.size ≤ l); replace HB := Z (below_step bl_ hb); have I := Z (nl b.out hg); have U := Z (ng b.out hg); replace b := Z (kb b.out hb); have J := Z (nl d.out hg); have W := Z (ng d.out hg); replace d := Z (kb d.out hb); clear hb hbox hg; have dp := U.out; have dv := I.out; have dq := W.out; have dw := J.out; obtain ⟨cE, cF, cG, cH, cI, cJ, cK, cL, cM, cN, cO, cP⟩ := cells6 E.out; obtain ⟨ei, el, cv⟩ := Kd.V_slice y.out; subst cv)); try go_wp2_with (first | (go_at_call 16; (with_reducible refine (paint_One.calls ay A B (fun k_ => k_ < w.heap.size) _ _ i D u v (Int.tmod (wrap64 (a1)) (i.length : Int)) x _ _ F O P Q R S T ac ad j ae K L av (some cw) ch _ ?side1 ?side2 ?side3 cz.out).mono ?_); (case side1 => exact Kd.V_mk ar.out (Kd.F_below (Kd.C_F k44_heap ag.out) bl_)); (case side2 => repeat (first | exact (Kd.C_below aT.out HB.out) | (with_reducible apply pC))); (case side3 => exact aS.out); rintro e eV ⟨cx, cy, rfl, aC, aD, hb⟩; have y := Z (Kd.V_lower (Kd.V_mono (ok' := fun k_ => k_ ≠ X ∧ k_ ≠ Y) aC (fun k_ hk_ => ⟨Or.elim hk_ (fun hs_ => fun e_ => Nat.not_le.2 hs_ (by rw [e_]; exact aw.out)) (fun hn_ => (fb b.out k_ hn_)), Or.elim hk_ (fun hs_ => fun e_ => Nat.not_le.2 hs_ (by rw [e_]; exact ax.out)) (fun hn_ => (fb d.out k_ hn_))⟩)) (below_size bl_)); have M := Z (Kd.V_lower (Kd.V_mono (ok' := fun k_ => k_ ≠ X ∧ k_ ≠ Y) aD (fun k_ hk_ => ⟨Or.elim hk_ (fun hs_ => fun e_ => Nat.not_le.2 hs_ (by rw [e_]; exact aw.out)) (fun hn_ => (fb b.out k_ hn_)), Or.elim hk_ (fun hs_ => fun e_ => Nat.not_le.2 hs_ (by rw [e_]; exact ax.out)) (fun hn_ => (fb d.out k_ hn_))⟩)) (below_size bl_)); replace b := Z (kb b.out hb); replace d := Z (kb d.out hb); replace HB := Z (below_step bl_ hb); (try clear hb); (try clear ap); (try clear hk); (try clear hi); (try clear aC); (try clear aD); (try simp only [errW_none, errW_some])) | ((with_reducible refine gate_dst (N := 8) rfl ?_); (try (refine gate_guard (by rfl) ?_; dsimp only)); refine bx_ 8 24 #[.int .i64 0, .int .i64 0, .slice none 0 0, .int .i64 0, .bool false, .bool false] ?_; intro l hg eW hbox hb; replace y := Z (ve y.out hg hb); replace M := Z (ve M.out hg hb); have E := Z (hbox); have bB := Z (ln_ hg : w.heap.size ≤ l); have bA := Z (ln_ hg : w.heap.size ≤ l); replace HB := Z (below_step bl_ hb); have I := Z (nl b.out hg); have U := Z (ng b.out hg); replace b := Z (kb b.out hb); have J := Z (nl d.out hg); have W := Z (ng d.out hg); replace d := Z (kb d.out hb); clear hb hbox hg; have dp := U.out; have dv := I.out; have dq := W.out; have dw := J.out; obtain ⟨cE, cF, cG, cH, cI, cJ, cK, cL, cM, cN, cO, cP⟩ := cells6 E.out; obtain ⟨ei, el, cv⟩ := Kd.V_slice y.out; subst cv)))
      go_ret
      exact ⟨er_, bl_⟩

end Go.Proofs.YtgboplhcjhlabaaDoor.P
