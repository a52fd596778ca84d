/- pp.py and press2.py (wip/tools) wrote this text. -/
import Derived.Test.YtgboplhcjhlabaaDoorPx0
import Derived.Test.YtgboplhcjhlabaaDoorPxS
import Derived.Test.YtgboplhcjhlabaaDoorPx0L
import Derived.Test.YtgboplhcjhlabaaDoorPx2
import Derived.Test.YtgboplhcjhlabaaDoorPx4
import Derived.Test.YtgboplhcjhlabaaDoorPx5
import Derived.Test.YtgboplhcjhlabaaDoorPx12
import Derived.Test.YtgboplhcjhlabaaDoorPx13L
import Derived.Test.YtgboplhcjhlabaaDoorPx14
import Derived.Test.YtgboplhcjhlabaaDoorPx15
namespace Go.Proofs.YtgboplhcjhlabaaDoor.P
open Go.RowKit Go.Proofs.YtgboplhcjhlabaaDoorW.PrintWords Go.Proofs.YtgboplhcjhlabaaDoorW.PrintLast Go.Proofs.YtgboplhcjhlabaaDoorW.PrintMore
attribute [local go_sem] max2_int min2_int max_two min_two max_three min_three max_four min_four
attribute [local go_sem] Instr.field asAgg
set_option linter.unusedVariables false
set_option linter.unusedSimpArgs false

attribute [local go_sem high] eqA44
/-! ### shutterlaw13_HostClean: function 9 -/
mutual
def shutterlaw13_HostClean.l0 : Nat → Int → Int → Int → List (S44) → Int → Bool → Bool → Int → Int → List (S44) → Int → Bool → Bool → Option (Bool)
 | 0, _, _, _, _, _, _, _, _, _, _, _, _, _ => none
 | k + 1, c, e, g, a, h, i, j, l, m, b, d, n, o => if c < (a.length : Int) then (if 0 ≤ c then (if c < (b.length : Int) then ((shutterref11_Open.f k e g a h i j c).bind fun u => (if u = true then (if (rd_T44 b c).f0 = true then (none) else (if ((rd_T44 b c).f2) = 0 then (shutterlaw13_HostClean.l0 k (wrap64 (c + 1)) e g a h i j l m b d n o) else (none))) else (if (rd_T44 a c).f0 = true then (shutterlaw13_HostClean.j1 k c (!((rd_T44 a c).f1.f0)) e g a h i j l m b d n o ((rd_T44 a c).f0) ((rd_T44 a c).f1.f0) ((rd_T44 a c).f1.f1) ((rd_T44 a c).f1.f2) ((rd_T44 a c).f1.f3) ((rd_T44 a c).f2) ((rd_T44 b c).f0) ((rd_T44 b c).f1.f0) ((rd_T44 b c).f1.f1) ((rd_T44 b c).f1.f2) ((rd_T44 b c).f1.f3) ((rd_T44 b c).f2)) else (shutterlaw13_HostClean.j1 k c false e g a h i j l m b d n o ((rd_T44 a c).f0) ((rd_T44 a c).f1.f0) ((rd_T44 a c).f1.f1) ((rd_T44 a c).f1.f2) ((rd_T44 a c).f1.f3) ((rd_T44 a c).f2) ((rd_T44 b c).f0) ((rd_T44 b c).f1.f0) ((rd_T44 b c).f1.f1) ((rd_T44 b c).f1.f2) ((rd_T44 b c).f1.f3) ((rd_T44 b c).f2))))) else (none)) else (none)) else ((shutterref11_Next.f k e g a h i j 0).bind fun p => (if p < 0 then (if d = 0 then (some true) else ((shutterref11_Next.f k e g a h i j 0).bind fun q => (if q ≥ 0 then ((shutterref11_Open.f k l m b d n o d).bind fun r => (some r)) else (none)))) else ((shutterref11_Next.f k e g a h i j 0).bind fun s => (if s ≥ 0 then ((shutterref11_Open.f k l m b d n o d).bind fun t => (some t)) else (none)))))
def shutterlaw13_HostClean.j1 : Nat → Int → Bool → Int → Int → List (S44) → Int → Bool → Bool → Int → Int → List (S44) → Int → Bool → Bool → Bool → Bool → Bool → Int → Bool → Int → Bool → Bool → Bool → Int → Bool → Int → Option (Bool)
 | 0, _, _, _, _, _, _, _, _, _, _, _, _, _, _, _, _, _, _, _, _, _, _, _, _, _, _ => none
 | k + 1, z, A, a, b, c, d, e, f, g, h, i, j, l, m, n, o, p, q, y, r, s, t, u, v, w, x => if A = true then (if (!(n == s) || ((!(o == t) || (!(p == u) || (!(q == v) || (w)))) || (!(r == x)))) = true then (none) else (shutterlaw13_HostClean.l0 k (wrap64 (z + 1)) a b c d e f g h i j l m)) else (if (!(n == s) || ((!(o == t) || (!(p == u) || (!(q == v) || (!(y == w))))) || (!(r == x)))) = true then (none) else (shutterlaw13_HostClean.l0 k (wrap64 (z + 1)) a b c d e f g h i j l m))
end
def shutterlaw13_HostClean.f (k : Nat) (c : Int) (d : Int) (b : List (S44)) (e : Int) (g : Bool) (h : Bool) : Option (Bool) := (shutterlaw13_awake.f k).bind fun i => (if i = true then ((shutterref10_Few.f k c d b e g h).bind fun j => (if j = true then ((host_Do.f k c d b e g h 111 false false false ([] : List (S30))).bind fun a => (if a.2.2.2.2.2.2.1.isNone = true then ((shutterref10_Right.f k a.1 a.2.1 a.2.2.1 a.2.2.2.1 a.2.2.2.2.1 a.2.2.2.2.2.1).bind fun m => (if m = true then (if (a.2.2.1.length : Int) = (b.length : Int) then (if a.2.2.2.2.1 = true then (none) else (if a.2.2.2.2.2.1 = true then (none) else (shutterlaw13_HostClean.l0 k 0 c d b e g h a.1 a.2.1 a.2.2.1 a.2.2.2.1 a.2.2.2.2.1 a.2.2.2.2.2.1))) else (none)) else (none))) else (none))) else ((shutterlaw13_awake.f k).bind fun l => (some l)))) else (none))
theorem shutterlaw13_HostClean.mono_l : ∀ k, (∀ d e f g i j l m n o a b c, LeO (shutterlaw13_HostClean.l0 k d e f g i j l m n o a b c) (shutterlaw13_HostClean.l0 (k + 1) d e f g i j l m n o a b c)) ∧ (∀ d e f g i j l m n o a b c s t u v w x y z A B C D E, LeO (shutterlaw13_HostClean.j1 k d e f g i j l m n o a b c s t u v w x y z A B C D E) (shutterlaw13_HostClean.j1 (k + 1) d e f g i j l m n o a b c s t u v w x y z A B C D E))
 | 0 => ⟨fun _ _ _ _ _ _ _ _ _ _ _ _ _ r h => by simp [shutterlaw13_HostClean.l0] at h, fun _ _ _ _ _ _ _ _ _ _ _ _ _ _ _ _ _ _ _ _ _ _ _ _ _ _ r h => by simp [shutterlaw13_HostClean.j1] at h⟩
 | k + 1 => by
  obtain ⟨p, q⟩ := shutterlaw13_HostClean.mono_l k
  refine ⟨?_, ?_⟩
  ·intro d e f g i j l m n o a b c
   unfold shutterlaw13_HostClean.l0
   repeat' first
   | (with_reducible exact p _ _ _ _ _ _ _ _ _ _ _ _ _)
   | (with_reducible exact q _ _ _ _ _ _ _ _ _ _ _ _ _ _ _ _ _ _ _ _ _ _ _ _ _ _)
   | (with_reducible exact host_Do.mono _ _ _ _ _ _ _ _ _ _ _ _)
   | (with_reducible exact shutterlaw13_awake.mono _)
   | (with_reducible exact shutterref10_Few.mono _ _ _ _ _ _ _)
   | (with_reducible exact shutterref10_Right.mono _ _ _ _ _ _ _)
   | (with_reducible exact shutterref11_Next.mono _ _ _ _ _ _ _ _)
   | (with_reducible exact shutterref11_Open.mono _ _ _ _ _ _ _ _)
   | (with_reducible exact LeO.refl _)
   | (with_reducible exact LeO.none _)
   | (with_reducible refine LeO.ite ?_ ?_)
   | (with_reducible refine LeO.bind ?_ (fun _ => ?_))
   | exact p _ _ _ _ _ _ _ _ _ _ _ _ _
   | exact q _ _ _ _ _ _ _ _ _ _ _ _ _ _ _ _ _ _ _ _ _ _ _ _ _ _
   | exact host_Do.mono _ _ _ _ _ _ _ _ _ _ _ _
   | exact shutterlaw13_awake.mono _
   | exact shutterref10_Few.mono _ _ _ _ _ _ _
   | exact shutterref10_Right.mono _ _ _ _ _ _ _
   | exact shutterref11_Next.mono _ _ _ _ _ _ _ _
   | exact shutterref11_Open.mono _ _ _ _ _ _ _ _
   | exact LeO.none _
   | refine LeO.ite ?_ ?_
   | refine LeO.bind ?_ (fun _ => ?_)
  ·intro d e f g i j l m n o a b c s t u v w x y z A B C D E
   unfold shutterlaw13_HostClean.j1
   repeat' first
   | (with_reducible exact p _ _ _ _ _ _ _ _ _ _ _ _ _)
   | (with_reducible exact q _ _ _ _ _ _ _ _ _ _ _ _ _ _ _ _ _ _ _ _ _ _ _ _ _ _)
   | (with_reducible exact host_Do.mono _ _ _ _ _ _ _ _ _ _ _ _)
   | (with_reducible exact shutterlaw13_awake.mono _)
   | (with_reducible exact shutterref10_Few.mono _ _ _ _ _ _ _)
   | (with_reducible exact shutterref10_Right.mono _ _ _ _ _ _ _)
   | (with_reducible exact shutterref11_Next.mono _ _ _ _ _ _ _ _)
   | (with_reducible exact shutterref11_Open.mono _ _ _ _ _ _ _ _)
   | (with_reducible exact LeO.refl _)
   | (with_reducible exact LeO.none _)
   | (with_reducible refine LeO.ite ?_ ?_)
   | (with_reducible refine LeO.bind ?_ (fun _ => ?_))
   | exact p _ _ _ _ _ _ _ _ _ _ _ _ _
   | exact q _ _ _ _ _ _ _ _ _ _ _ _ _ _ _ _ _ _ _ _ _ _ _ _ _ _
   | exact host_Do.mono _ _ _ _ _ _ _ _ _ _ _ _
   | exact shutterlaw13_awake.mono _
   | exact shutterref10_Few.mono _ _ _ _ _ _ _
   | exact shutterref10_Right.mono _ _ _ _ _ _ _
   | exact shutterref11_Next.mono _ _ _ _ _ _ _ _
   | exact shutterref11_Open.mono _ _ _ _ _ _ _ _
   | exact LeO.none _
   | refine LeO.ite ?_ ?_
   | refine LeO.bind ?_ (fun _ => ?_)
theorem shutterlaw13_HostClean.mono : ∀ a0 a1 c d a4 e k, LeO (shutterlaw13_HostClean.f k a0 a1 c d a4 e) (shutterlaw13_HostClean.f (k + 1) a0 a1 c d a4 e) := by
 intro a0 a1 c d a4 e k
 obtain ⟨a, b⟩ := shutterlaw13_HostClean.mono_l k
 unfold shutterlaw13_HostClean.f
 repeat' first
   | (with_reducible exact a _ _ _ _ _ _ _ _ _ _ _ _ _)
   | (with_reducible exact b _ _ _ _ _ _ _ _ _ _ _ _ _ _ _ _ _ _ _ _ _ _ _ _ _ _)
   | (with_reducible exact host_Do.mono _ _ _ _ _ _ _ _ _ _ _ _)
   | (with_reducible exact shutterlaw13_awake.mono _)
   | (with_reducible exact shutterref10_Few.mono _ _ _ _ _ _ _)
   | (with_reducible exact shutterref10_Right.mono _ _ _ _ _ _ _)
   | (with_reducible exact shutterref11_Next.mono _ _ _ _ _ _ _ _)
   | (with_reducible exact shutterref11_Open.mono _ _ _ _ _ _ _ _)
   | (with_reducible exact LeO.refl _)
   | (with_reducible exact LeO.none _)
   | (with_reducible refine LeO.ite ?_ ?_)
   | (with_reducible refine LeO.bind ?_ (fun _ => ?_))
   | exact a _ _ _ _ _ _ _ _ _ _ _ _ _
   | exact b _ _ _ _ _ _ _ _ _ _ _ _ _ _ _ _ _ _ _ _ _ _ _ _ _ _
   | exact host_Do.mono _ _ _ _ _ _ _ _ _ _ _ _
   | exact shutterlaw13_awake.mono _
   | exact shutterref10_Few.mono _ _ _ _ _ _ _
   | exact shutterref10_Right.mono _ _ _ _ _ _ _
   | exact shutterref11_Next.mono _ _ _ _ _ _ _ _
   | exact shutterref11_Open.mono _ _ _ _ _ _ _ _
   | exact LeO.none _
   | refine LeO.ite ?_ ?_
   | refine LeO.bind ?_ (fun _ => ?_)
set_option maxHeartbeats 8000000 in
set_option maxRecDepth 100000 in
theorem shutterlaw13_HostClean.calls (k : Nat) (j : Int) (l : Int) (az : Option Addr) (W : Nat) (b : List (S44)) (m : Int) (n : Bool) (o : Bool) (r : Bool) (w : World) (cN : Kd.C k44 w az b.length b) (cM : b.length ≤ W) (hG : LaidG w) (h : shutterlaw13_HostClean.f k j l b m n o = some r) :
  Calls Tryd.prog 9 #[.agg #[.int .i64 j, .int .i64 l, .slice az b.length W, .int .i64 m, .bool n, .bool o]] w fun e w' => e = .returned (.bool r) ∧ Below w.heap.size w w' := by
 have HG := Z hG
 clear hG
 have kI := Tryd.underlying24
 have kL := Tryd.underlying60
 have kK := Tryd.underlying44
 have kJ := Tryd.underlying34
 have kM := Tryd.underlying75
 have ae := Z cN
 have al := Z cM
 clear cN cM
 have HB := Z (Below.refl w.heap.size w)
 have H : ((shutterlaw13_awake.f k).bind fun cp => (if cp = true then ((shutterref10_Few.f k j l b m n o).bind fun aH => (if aH = true then ((host_Do.f k j l b m n o 111 false false false ([] : List (S30))).bind fun g => (if g.2.2.2.2.2.2.1.isNone = true then ((shutterref10_Right.f k g.1 g.2.1 g.2.2.1 g.2.2.2.1 g.2.2.2.2.1 g.2.2.2.2.2.1).bind fun ad => (if ad = true then (if (g.2.2.1.length : Int) = (b.length : Int) then (if g.2.2.2.2.1 = true then (none) else (if g.2.2.2.2.2.1 = true then (none) else (shutterlaw13_HostClean.l0 k 0 j l b m n o g.1 g.2.1 g.2.2.1 g.2.2.2.1 g.2.2.2.2.1 g.2.2.2.2.2.1))) else (none)) else (none))) else (none))) else ((shutterlaw13_awake.f k).bind fun aj => (some aj)))) else (none))) = some r := h
 clear h
 replace H := Option.bind_eq_some_iff.mp H
 obtain ⟨cp, fU, H⟩ := H
 replace H : (if cp = true then ((shutterref10_Few.f k j l b m n o).bind fun aH => (if aH = true then ((host_Do.f k j l b m n o 111 false false false ([] : List (S30))).bind fun g => (if g.2.2.2.2.2.2.1.isNone = true then ((shutterref10_Right.f k g.1 g.2.1 g.2.2.1 g.2.2.2.1 g.2.2.2.2.1 g.2.2.2.2.2.1).bind fun ad => (if ad = true then (if (g.2.2.1.length : Int) = (b.length : Int) then (if g.2.2.2.2.1 = true then (none) else (if g.2.2.2.2.2.1 = true then (none) else (shutterlaw13_HostClean.l0 k 0 j l b m n o g.1 g.2.1 g.2.2.1 g.2.2.2.1 g.2.2.2.2.1 g.2.2.2.2.2.1))) else (none)) else (none))) else (none))) else ((shutterlaw13_awake.f k).bind fun aj => (some aj)))) else (none)) = some r := H
 have A2 := Z fU
 clear fU
 by_cases c3 : cp = true
 ·subst c3
  have H1 : ((shutterref10_Few.f k j l b m n o).bind fun aH => (if aH = true then ((host_Do.f k j l b m n o 111 false false false ([] : List (S30))).bind fun g => (if g.2.2.2.2.2.2.1.isNone = true then ((shutterref10_Right.f k g.1 g.2.1 g.2.2.1 g.2.2.2.1 g.2.2.2.2.1 g.2.2.2.2.2.1).bind fun ad => (if ad = true then (if (g.2.2.1.length : Int) = (b.length : Int) then (if g.2.2.2.2.1 = true then (none) else (if g.2.2.2.2.2.1 = true then (none) else (shutterlaw13_HostClean.l0 k 0 j l b m n o g.1 g.2.1 g.2.2.1 g.2.2.2.1 g.2.2.2.2.1 g.2.2.2.2.2.1))) else (none)) else (none))) else (none))) else ((shutterlaw13_awake.f k).bind fun aj => (some aj)))) = some r := by rw [if_pos rfl] at H; exact H
  clear H
  have H := H1
  clear H1
  replace H := Option.bind_eq_some_iff.mp H
  obtain ⟨aH, fW, H⟩ := H
  replace H : (if aH = true then ((host_Do.f k j l b m n o 111 false false false ([] : List (S30))).bind fun g => (if g.2.2.2.2.2.2.1.isNone = true then ((shutterref10_Right.f k g.1 g.2.1 g.2.2.1 g.2.2.2.1 g.2.2.2.2.1 g.2.2.2.2.2.1).bind fun ad => (if ad = true then (if (g.2.2.1.length : Int) = (b.length : Int) then (if g.2.2.2.2.1 = true then (none) else (if g.2.2.2.2.2.1 = true then (none) else (shutterlaw13_HostClean.l0 k 0 j l b m n o g.1 g.2.1 g.2.2.1 g.2.2.2.1 g.2.2.2.2.1 g.2.2.2.2.2.1))) else (none)) else (none))) else (none))) else ((shutterlaw13_awake.f k).bind fun aj => (some aj))) = some r := H
  have A4 := Z fW
  clear fW
  by_cases c5 : aH = true
  ·subst c5
   have H1 : ((host_Do.f k j l b m n o 111 false false false ([] : List (S30))).bind fun g => (if g.2.2.2.2.2.2.1.isNone = true then ((shutterref10_Right.f k g.1 g.2.1 g.2.2.1 g.2.2.2.1 g.2.2.2.2.1 g.2.2.2.2.2.1).bind fun ad => (if ad = true then (if (g.2.2.1.length : Int) = (b.length : Int) then (if g.2.2.2.2.1 = true then (none) else (if g.2.2.2.2.2.1 = true then (none) else (shutterlaw13_HostClean.l0 k 0 j l b m n o g.1 g.2.1 g.2.2.1 g.2.2.2.1 g.2.2.2.2.1 g.2.2.2.2.2.1))) else (none)) else (none))) else (none))) = some r := by rw [if_pos rfl] at H; exact H
   clear H
   have H := H1
   clear H1
   replace H := Option.bind_eq_some_iff.mp H
   obtain ⟨⟨A, B, c, u, au, ak, fD, fE⟩, fX, H⟩ := H
   replace H : (if fD.isNone = true then ((shutterref10_Right.f k A B c u au ak).bind fun ad => (if ad = true then (if (c.length : Int) = (b.length : Int) then (if au = true then (none) else (if ak = true then (none) else (shutterlaw13_HostClean.l0 k 0 j l b m n o A B c u au ak))) else (none)) else (none))) else (none)) = some r := H
   have A6 := Z fX
   clear fX
   rcases fD with _ | cC
   ·have H1 : ((shutterref10_Right.f k A B c u au ak).bind fun ad => (if ad = true then (if (c.length : Int) = (b.length : Int) then (if au = true then (none) else (if ak = true then (none) else (shutterlaw13_HostClean.l0 k 0 j l b m n o A B c u au ak))) else (none)) else (none))) = some r := by rw [if_pos (show (none : Option Er).isNone = true by rfl)] at H; exact H
    clear H
    have H := H1
    clear H1
    try simp only [errW_none, errW_some]
    replace H := Option.bind_eq_some_iff.mp H
    obtain ⟨ad, fY, H⟩ := H
    replace H : (if ad = true then (if (c.length : Int) = (b.length : Int) then (if au = true then (none) else (if ak = true then (none) else (shutterlaw13_HostClean.l0 k 0 j l b m n o A B c u au ak))) else (none)) else (none)) = some r := H
    have A7 := Z fY
    clear fY
    by_cases c8 : ad = true
    ·subst c8
     have H1 : (if (c.length : Int) = (b.length : Int) then (if au = true then (none) else (if ak = true then (none) else (shutterlaw13_HostClean.l0 k 0 j l b m n o A B c u au ak))) else (none)) = some r := by rw [if_pos rfl] at H; exact H
     clear H
     have H := H1
     clear H1
     by_cases c9 : (c.length : Int) = (b.length : Int)
     ·rw [if_pos c9] at H
      have fA : ((c.length : Int) == (b.length : Int)) = true := beq_iff_eq.mpr c9
      have fB : ((c.length : Int) != (b.length : Int)) = false := bne_eq_false_iff_eq.mpr c9
      have fC : (c.length == b.length) = true := by first | simpa using c9 | (simp at c9 ⊢; omega)
      clear c9
      by_cases c10 : au = true
      ·subst c10
       have H1 : (none) = some r := by rw [if_pos rfl] at H; exact H
       clear H
       have H := H1
       clear H1
       exact absurd H (by simp)
      ·replace c10 := Bool.eq_false_iff.mpr c10
       subst c10
       have H1 : (if ak = true then (none) else (shutterlaw13_HostClean.l0 k 0 j l b m n o A B c u false ak)) = some r := by rw [if_neg (show ¬ (false = true) by decide)] at H; exact H
       clear H
       have H := H1
       clear H1
       by_cases aY : ak = true
       ·subst aY
        have H1 : (none) = some r := by rw [if_pos rfl] at H; exact H
        clear H
        have H := H1
        clear H1
        exact absurd H (by simp)
       ·replace aY := Bool.eq_false_iff.mpr aY
        subst aY
        have H1 : (shutterlaw13_HostClean.l0 k 0 j l b m n o A B c u false false) = some r := by rw [if_neg (show ¬ (false = true) by decide)] at H; exact H
        clear H
        have H := H1
        clear H1
        have H' := Z H
        clear H
        go_enter Tryd.func9, Tryd.ntmps9
        go_wp2_with (first | ((with_reducible refine gate_dst (N := 1) rfl ?_); (try (refine gate_guard (by rfl) ?_; dsimp only)); refine bx_ 1 24 #[.int .i64 j, .int .i64 l, .slice az b.length W, .int .i64 m, .bool n, .bool o] ?_; intro J hg lB hbox hb; have d := Z (hbox); have cg := Z (ln_ hg : w.heap.size ≤ J); have fG := Z (ln_ hg : w.heap.size ≤ J); replace HB := Z (below_step bl_ hb); clear hb hbox hg) | ((with_reducible refine gate_callee (f := 28) rfl ?_); refine goesL_ (some 8) rfl rfl Tryd.func28 (by kernel_rfl) rfl #[] rfl ag_ ?_; (with_reducible refine (shutterlaw13_awake.calls k  true _ ?sideG A2.out).mono ?_); (case sideG => exact laidG_below HG.out bl_ rfl); rintro e lC ⟨rfl, hb⟩; refine ⟨_, rfl, ?_⟩; replace d := Z (kb d.out hb); replace HB := Z (below_step bl_ hb); (try clear hb); (try clear aq); (try clear hk); (try clear hi); obtain ⟨a1, a2, a3, a4, a5, a6, bC, bD, bE, bF, bG, bH⟩ := cells6 d.out) | (go_at_call 15; (with_reducible refine (shutterref10_Few.calls k j l _ _ b m n o true _ ?side1 ?side2 A4.out).mono ?_); (case side1 => repeat (first | exact (Kd.C_below ae.out HB.out) | (with_reducible apply pC))); (case side2 => exact al.out); rintro e lD ⟨rfl, hb⟩; replace d := Z (kb d.out hb); replace HB := Z (below_step bl_ hb); (try clear hb); (try clear aq); (try clear hk); (try clear hi); obtain ⟨a7, a8, a9, ba, bb, bc, bI, bJ, bK, bL, bM, bN⟩ := cells6 d.out) | ((with_reducible refine gate_callee (f := 31) rfl ?_); refine goesL_ (some 19) rfl rfl Tryd.func31 (by kernel_rfl) rfl #[.agg #[.int .i64 j, .int .i64 l, .slice az b.length W, .int .i64 m, .bool n, .bool o], .agg #[.int .i64 111, .bool false, .bool false, .bool false, .slice none 0 0]] rfl ag_ ?_; (refine (host_Do.calls k j l (fun k_ => k_ < w.heap.size) _ _ b m n o 111 false false false _ _ ([] : List (S30)) A B c u false false none fE _ ?side1 ?side2 ?side3 A6.out).mono ?_); (case side1 => exact Kd.V_mk al.out (Kd.F_below (Kd.C_F k44_heap ae.out) bl_)); (case side2 => exact Kd.C_nil _ _); (case side3 => exact Nat.le_refl _); rintro e lE ⟨kP, iq, rfl, fZ, ga, hb⟩; refine ⟨_, rfl, ?_⟩; have X := Z (Kd.V_lower (Kd.V_mono (ok' := fun k_ => k_ ≠ J) fZ (fun k_ hk_ => Or.elim hk_ (fun hs_ => fun e_ => Nat.not_le.2 hs_ (by rw [e_]; exact cg.out)) (fun hn_ => (fb d.out k_ hn_)))) (below_size bl_)); have ap := Z (Kd.V_lower (Kd.V_mono (ok' := fun k_ => k_ ≠ J) ga (fun k_ hk_ => Or.elim hk_ (fun hs_ => fun e_ => Nat.not_le.2 hs_ (by rw [e_]; exact cg.out)) (fun hn_ => (fb d.out k_ hn_)))) (below_size bl_)); replace d := Z (kb d.out hb); replace HB := Z (below_step bl_ hb); (try clear hb); (try clear aq); (try clear hk); (try clear hi); (try clear fZ); (try clear ga); (try simp only [errW_none, errW_some])) | ((with_reducible refine gate_dst (N := 3) rfl ?_); (try (refine gate_guard (by rfl) ?_; dsimp only)); refine bx_ 3 24 #[.int .i64 0, .int .i64 0, .slice none 0 0, .int .i64 0, .bool false, .bool false] ?_; intro E hg jy hbox hb; replace X := Z (ve X.out hg hb); replace ap := Z (ve ap.out hg hb); have i := Z (hbox); have jE := Z (ln_ hg : w.heap.size ≤ E); have jD := Z (ln_ hg : w.heap.size ≤ E); replace HB := Z (below_step bl_ hb); have P := Z (nl d.out hg); have ag := Z (ng d.out hg); replace d := Z (kb d.out hb); clear hb hbox hg; have jF := ag.out; have ka := P.out; obtain ⟨bd, be, bf, bg, bh, bi, bO, bP, bQ, bR, bS, bT⟩ := cells6 i.out; obtain ⟨aA, af, gg⟩ := Kd.V_slice X.out; subst gg) | ((with_reducible refine gate_store (t := 24) (p := 3) rfl ?_); refine sx_ 24 3 ((((((jy.setCell ⟨E, 0, none⟩ (.int .i64 A)).setCell ⟨E, 1, none⟩ (.int .i64 B)).setCell ⟨E, 2, none⟩ (.slice aA c.length af)).setCell ⟨E, 3, none⟩ (.int .i64 u)).setCell ⟨E, 4, none⟩ (.bool false)).setCell ⟨E, 5, none⟩ (.bool false)) ?_; intro cw hw; replace X : Aside0 (Kd.V k44 44 cw w.heap.size (fun k_ => k_ ≠ J ∧ k_ ≠ E) (.slice aA c.length af) c) := ⟨(by rw [hw]; exact (by (with_reducible repeat apply pV); exact V_off X.out (fun k_ hk => hk.2) off2_ (fun _ hk => ⟨hk.1, hk.2⟩)))⟩; replace ap : Aside0 (Kd.V k184 184 cw w.heap.size (fun k_ => k_ ≠ J ∧ k_ ≠ E) iq fE) := ⟨(by rw [hw]; exact (by (with_reducible repeat apply pV); exact V_off ap.out (fun k_ hk => hk.2) off2_ (fun _ hk => ⟨hk.1, hk.2⟩)))⟩; replace d : Aside0 (cw.heap[J]? = some (.cells #[.int .i64 j, .int .i64 l, .slice az b.length W, .int .i64 m, .bool n, .bool o] 24 (0, 0))) := ⟨(by rw [hw]; exact (by (with_reducible repeat apply pK); exact blk_off d.out P.out off2_))⟩; replace i : Aside0 (cw.heap[E]? = some (.cells #[.int .i64 A, .int .i64 B, .slice aA c.length af, .int .i64 u, .bool false, .bool false] 24 (0, 0))) := ⟨by rw [hw]; exact (put6 i.out)⟩; replace HB : Aside0 (Below w.heap.size w cw) := ⟨by rw [hw]; exact bl_⟩; clear hw; obtain ⟨bj, bk, bl, bm, bn, bo, bU, bV, bW, bX, bY, bZ⟩ := cells6 i.out) | (go_at_call 21; (with_reducible refine (shutterref10_Right.calls k A B _ _ c u false false true _ ?side1 ?side2 A7.out).mono ?_); (case side1 => repeat (first | exact (Kd.V_reads' X.out).2.2 | (with_reducible apply pC))); (case side2 => exact (Kd.V_reads' X.out).2.1); rintro e lF ⟨rfl, hb⟩; replace X := Z (vb X.out hb); replace ap := Z (vb ap.out hb); replace d := Z (kb d.out hb); replace i := Z (kb i.out hb); replace HB := Z (below_step bl_ hb); (try clear hb); (try clear aq); (try clear hk); (try clear hi); obtain ⟨bp, bq, br, bs, bt, bu, b0, b1, b2, b3, b4, b5⟩ := cells6 i.out; obtain ⟨bv, bw, bx, bz, bA, bB, b6, b7, b8, b9, ca, cb⟩ := cells6 d.out))
        go_loopg [5] k (fun kq v5 w' => ∃ (a : Int), v5 = .int .i64 a ∧ Aside0 (shutterlaw13_HostClean.l0 kq a j l b m n o A B c u false false = some r) ∧ Aside0 (kq ≤ k) ∧ Aside0 (Kd.V k44 44 w' w.heap.size (fun k_ => k_ ≠ J ∧ k_ ≠ E) (.slice aA c.length af) c) ∧ Aside0 (w'.heap[J]? = some (.cells #[.int .i64 j, .int .i64 l, (.slice az b.length W), .int .i64 m, .bool n, .bool o] 24 (0, 0))) ∧ Aside0 (w'.heap[E]? = some (.cells #[.int .i64 A, .int .i64 B, (.slice aA c.length af), .int .i64 u, .bool false, .bool false] 24 (0, 0))) ∧ Aside0 (Below w.heap.size w w'))
        case atStart => exact ⟨(0), (dn_), H', ⟨Nat.le_refl _⟩, ⟨vV X.out⟩, ⟨vK d.out⟩, ⟨vK i.out⟩, ⟨bl_⟩⟩
        case round =>
         clear H'
         try clear c1
         try clear c2
         try clear p2
         try clear c3
         try clear q4
         try clear c5
         try clear c8
         try clear c9
         try clear fA
         try clear fB
         try clear fC
         try clear c10
         try clear aY
         try clear jr
         try clear a1
         try clear a2
         try clear a3
         try clear a4
         try clear a5
         try clear a6
         try clear a7
         try clear a8
         try clear a9
         try clear ba
         try clear bb
         try clear bc
         try clear bd
         try clear be
         try clear bf
         try clear bg
         try clear bh
         try clear bi
         try clear bj
         try clear bk
         try clear bl
         try clear bm
         try clear bn
         try clear bo
         try clear bp
         try clear bq
         try clear br
         try clear bs
         try clear bt
         try clear bu
         try clear bv
         try clear bw
         try clear bx
         try clear bz
         try clear bA
         try clear bB
         try clear bC
         try clear bD
         try clear bE
         try clear bF
         try clear bG
         try clear bH
         try clear bI
         try clear bJ
         try clear bK
         try clear bL
         try clear bM
         try clear bN
         try clear bO
         try clear bP
         try clear bQ
         try clear bR
         try clear bS
         try clear bT
         try clear bU
         try clear bV
         try clear bW
         try clear bX
         try clear bY
         try clear bZ
         try clear b0
         try clear b1
         try clear b2
         try clear b3
         try clear b4
         try clear b5
         try clear b6
         try clear b7
         try clear b8
         try clear b9
         try clear ca
         try clear cb
         try clear cC
         obtain ⟨a, rfl, HA, aS, HO_492002, d, i, HB⟩ := hrel
         cases gk with
         | zero => exact absurd HA.out (by simp [shutterlaw13_HostClean.l0])
         | succ k1 =>
          have H := HA.out
          clear HA
          simp only [shutterlaw13_HostClean.l0] at H
          by_cases aT : a < (b.length : Int)
          ·rw [if_pos aT] at H
           have cI : decide (a < (b.length : Int)) = true := decide_eq_true aT
           clear aT
           by_cases cq : 0 ≤ a
           ·rw [if_pos cq] at H
            have fL : decide (0 ≤ a) = true := decide_eq_true cq
            clear cq
            by_cases cr : a < (c.length : Int)
            ·rw [if_pos cr] at H
             have fM : decide (a < (c.length : Int)) = true := decide_eq_true cr
             clear cr
             replace H := Option.bind_eq_some_iff.mp H
             obtain ⟨fF, fw, H⟩ := H
             replace H : (if fF = true then (if (rd_T44 c a).f0 = true then (none) else (if ((rd_T44 c a).f2) = 0 then (shutterlaw13_HostClean.l0 k1 (wrap64 (a + 1)) j l b m n o A B c u false false) else (none))) else (if (rd_T44 b a).f0 = true then (shutterlaw13_HostClean.j1 k1 a (!((rd_T44 b a).f1.f0)) j l b m n o A B c u false false ((rd_T44 b a).f0) ((rd_T44 b a).f1.f0) ((rd_T44 b a).f1.f1) ((rd_T44 b a).f1.f2) ((rd_T44 b a).f1.f3) ((rd_T44 b a).f2) ((rd_T44 c a).f0) ((rd_T44 c a).f1.f0) ((rd_T44 c a).f1.f1) ((rd_T44 c a).f1.f2) ((rd_T44 c a).f1.f3) ((rd_T44 c a).f2)) else (shutterlaw13_HostClean.j1 k1 a false j l b m n o A B c u false false ((rd_T44 b a).f0) ((rd_T44 b a).f1.f0) ((rd_T44 b a).f1.f1) ((rd_T44 b a).f1.f2) ((rd_T44 b a).f1.f3) ((rd_T44 b a).f2) ((rd_T44 c a).f0) ((rd_T44 c a).f1.f0) ((rd_T44 c a).f1.f1) ((rd_T44 c a).f1.f2) ((rd_T44 c a).f1.f3) ((rd_T44 c a).f2)))) = some r := H
             have fV := Z fw
             clear fw
             by_cases ct : fF = true
             ·subst ct
              have H1 : (if (rd_T44 c a).f0 = true then (none) else (if ((rd_T44 c a).f2) = 0 then (shutterlaw13_HostClean.l0 k1 (wrap64 (a + 1)) j l b m n o A B c u false false) else (none))) = some r := by rw [if_pos rfl] at H; exact H
              clear H
              have H := H1
              clear H1
              obtain ⟨fz, cm⟩ : ∃ b_ : Bool, b_ = ((rd_T44 c a).f0) := ⟨_, rfl⟩
              replace H : (if fz = true then (none) else (if ((rd_T44 c a).f2) = 0 then (shutterlaw13_HostClean.l0 k1 (wrap64 (a + 1)) j l b m n o A B c u false false) else (none))) = some r := by rw [← cm] at H; exact H
              have am := Z cm
              clear cm
              by_cases cu : fz = true
              ·subst cu
               have H1 : (none) = some r := by rw [if_pos rfl] at H; exact H
               clear H
               have H := H1
               clear H1
               exact absurd H (by simp)
              ·replace cu := Bool.eq_false_iff.mpr cu
               subst cu
               have H1 : (if ((rd_T44 c a).f2) = 0 then (shutterlaw13_HostClean.l0 k1 (wrap64 (a + 1)) j l b m n o A B c u false false) else (none)) = some r := by rw [if_neg (show ¬ (false = true) by decide)] at H; exact H
               clear H
               have H := H1
               clear H1
               by_cases aZ : ((rd_T44 c a).f2) = 0
               ·rw [if_pos aZ] at H
                have fN : (((rd_T44 c a).f2) == 0) = true := beq_iff_eq.mpr aZ
                have fO : (((rd_T44 c a).f2) != 0) = false := bne_eq_false_iff_eq.mpr aZ
                clear aZ
                have H' := Z H
                clear H
                have jG := P.out
                have kc := ag.out
                obtain ⟨cO, cP, cQ, cR, cS, cT, ee, ef, eg, eh, ei, ej⟩ := cells6 d.out
                have aD : 0 ≤ (a : Int) := od_
                have aF : a < (b.length : Int) := od_
                obtain ⟨av, cA, Y, aa, ab, ah, ac, ai⟩ := at_T44 ae.out a aD aF
                (try rw [← am.out] at Y)
                (try rw [← am.out] at aa)
                (try rw [← am.out] at ab)
                (try rw [← am.out] at ac)
                cases cA
                replace Y := (HB.out.cell (bk_ w _ Y)).trans Y
                replace aa := (HB.out.cell (bk_ w _ aa)).trans aa
                replace ab := (HB.out.cell (bk_ w _ ab)).trans ab
                replace ah := (HB.out.cell (bk_ w _ ah)).trans ah
                replace ac := (HB.out.cell (bk_ w _ ac)).trans ac
                replace ai := (HB.out.cell (bk_ w _ ai)).trans ai
                replace aD := eq_true aD
                replace aF := eq_true aF
                go_wp2_with (first | ((with_reducible refine gate_dst (N := 6) rfl ?_); (try (refine gate_guard (by rfl) ?_; dsimp only)); refine bx_ 6 44 #[.bool false, .bool false, .bool false, .int .i64 0, .bool false, .int .u8 0] ?_; intro D hg jz hbox hb; replace HO_492002 := Z (ve HO_492002.out hg hb); have z := Z (hbox); have fJ := Z (ln_ hg : w.heap.size ≤ D); have fH := Z (ln_ hg : w.heap.size ≤ D); replace HB := Z (below_step bl_ hb); have K := Z (nl d.out hg); have S := Z (ng d.out hg); replace d := Z (kb d.out hb); have L := Z (nl i.out hg); have T := Z (ng i.out hg); replace i := Z (kb i.out hb); clear hb hbox hg; have jH := S.out; have kd := K.out; have jI := T.out; have ke := L.out; obtain ⟨cU, cV, cW, cX, cY, cZ, ek, el, em, en, eo, ep⟩ := cells6 z.out) | ((with_reducible refine gate_store (t := 44) (p := 6) rfl ?_); refine sx_ 44 6 ((((((jz.setCell ⟨D, 0, none⟩ (.bool ((rd_T44 b a).f0))).setCell ⟨D, 1, none⟩ (.bool ((rd_T44 b a).f1.f0))).setCell ⟨D, 2, none⟩ (.bool ((rd_T44 b a).f1.f1))).setCell ⟨D, 3, none⟩ (.int .i64 ((rd_T44 b a).f1.f2))).setCell ⟨D, 4, none⟩ (.bool ((rd_T44 b a).f1.f3))).setCell ⟨D, 5, none⟩ (.int .u8 ((rd_T44 b a).f2))) ?_; intro cx hw; replace HO_492002 : Aside0 (Kd.V k44 44 cx w.heap.size (fun k_ => k_ ≠ J ∧ k_ ≠ E ∧ k_ ≠ D) (.slice aA c.length af) c) := ⟨(by rw [hw]; exact (by (with_reducible repeat apply pV); exact V_off HO_492002.out (fun k_ hk => hk.2) off2_ (fun _ hk => ⟨hk.1.1, ⟨hk.1.2, hk.2⟩⟩)))⟩; replace d : Aside0 (cx.heap[J]? = some (.cells #[.int .i64 j, .int .i64 l, .slice (some av) b.length W, .int .i64 m, .bool n, .bool o] 24 (0, 0))) := ⟨(by rw [hw]; exact (by (with_reducible repeat apply pK); exact blk_off d.out K.out off2_))⟩; replace i : Aside0 (cx.heap[E]? = some (.cells #[.int .i64 A, .int .i64 B, .slice aA c.length af, .int .i64 u, .bool false, .bool false] 24 (0, 0))) := ⟨(by rw [hw]; exact (by (with_reducible repeat apply pK); exact blk_off i.out L.out off2_))⟩; replace z : Aside0 (cx.heap[D]? = some (.cells #[.bool ((rd_T44 b a).f0), .bool ((rd_T44 b a).f1.f0), .bool ((rd_T44 b a).f1.f1), .int .i64 ((rd_T44 b a).f1.f2), .bool ((rd_T44 b a).f1.f3), .int .u8 ((rd_T44 b a).f2)] 44 (0, 0))) := ⟨(by rw [hw]; exact (by first | exact put6 z.out | (simp only [← am.out]; exact put6 z.out)))⟩; replace HB : Aside0 (Below w.heap.size w cx) := ⟨by rw [hw]; exact bl_⟩; clear hw; obtain ⟨c0, da, db, dc, dd, de, eq, er, es, et, eu, ev⟩ := cells6 i.out; have aE : 0 ≤ (a : Int) := od_; have aG : a < (c.length : Int) := od_; obtain ⟨aB, cB, aK, aL, aM, cc, aN, cd⟩ := at_T44 (Kd.V_reads' HO_492002.out).2.2 a aE aG; (try rw [← am.out] at aK); (try rw [← am.out] at aL); (try rw [← am.out] at aM); (try rw [← am.out] at aN); cases cB; replace aE := eq_true aE; replace aG := eq_true aG) | ((with_reducible refine gate_dst (N := 7) rfl ?_); (try (refine gate_guard (by rfl) ?_; dsimp only)); refine bx_ 7 44 #[.bool false, .bool false, .bool false, .int .i64 0, .bool false, .int .u8 0] ?_; intro F hg jA hbox hb; replace HO_492002 := Z (ve HO_492002.out hg hb); have I := Z (hbox); have fK := Z (ln_ hg : w.heap.size ≤ F); have fI := Z (ln_ hg : w.heap.size ≤ F); replace HB := Z (below_step bl_ hb); have Q := Z (nl d.out hg); have an := Z (ng d.out hg); replace d := Z (kb d.out hb); have R := Z (nl i.out hg); have ao := Z (ng i.out hg); replace i := Z (kb i.out hb); have M := Z (nl z.out hg); have U := Z (ng z.out hg); replace z := Z (kb z.out hb); clear hb hbox hg; have jJ := an.out; have kf := Q.out; have jK := ao.out; have kg := R.out; have jL := U.out; have kh := M.out; obtain ⟨df, dg, dh, di, dj, dk, ew, ex, ey, ez, eA, eB⟩ := cells6 I.out) | ((with_reducible refine gate_store (t := 44) (p := 7) rfl ?_); refine sx_ 44 7 ((((((jA.setCell ⟨F, 0, none⟩ (.bool false)).setCell ⟨F, 1, none⟩ (.bool ((rd_T44 c a).f1.f0))).setCell ⟨F, 2, none⟩ (.bool ((rd_T44 c a).f1.f1))).setCell ⟨F, 3, none⟩ (.int .i64 ((rd_T44 c a).f1.f2))).setCell ⟨F, 4, none⟩ (.bool ((rd_T44 c a).f1.f3))).setCell ⟨F, 5, none⟩ (.int .u8 ((rd_T44 c a).f2))) ?_; intro ce hw; replace HO_492002 : Aside0 (Kd.V k44 44 ce w.heap.size (fun k_ => k_ ≠ J ∧ k_ ≠ E ∧ k_ ≠ D ∧ k_ ≠ F) (.slice (some aB) c.length af) c) := ⟨(by rw [hw]; exact (by (with_reducible repeat apply pV); exact V_off HO_492002.out (fun k_ hk => hk.2) off2_ (fun _ hk => ⟨hk.1.1, ⟨hk.1.2.1, ⟨hk.1.2.2, hk.2⟩⟩⟩)))⟩; replace d : Aside0 (ce.heap[J]? = some (.cells #[.int .i64 j, .int .i64 l, .slice (some av) b.length W, .int .i64 m, .bool n, .bool o] 24 (0, 0))) := ⟨(by rw [hw]; exact (by (with_reducible repeat apply pK); exact blk_off d.out Q.out off2_))⟩; replace i : Aside0 (ce.heap[E]? = some (.cells #[.int .i64 A, .int .i64 B, .slice (some aB) c.length af, .int .i64 u, .bool false, .bool false] 24 (0, 0))) := ⟨(by rw [hw]; exact (by (with_reducible repeat apply pK); exact blk_off i.out R.out off2_))⟩; replace z : Aside0 (ce.heap[D]? = some (.cells #[.bool ((rd_T44 b a).f0), .bool ((rd_T44 b a).f1.f0), .bool ((rd_T44 b a).f1.f1), .int .i64 ((rd_T44 b a).f1.f2), .bool ((rd_T44 b a).f1.f3), .int .u8 ((rd_T44 b a).f2)] 44 (0, 0))) := ⟨(by rw [hw]; exact (by (with_reducible repeat apply pK); exact blk_off z.out M.out off2_))⟩; replace I : Aside0 (ce.heap[F]? = some (.cells #[.bool false, .bool ((rd_T44 c a).f1.f0), .bool ((rd_T44 c a).f1.f1), .int .i64 ((rd_T44 c a).f1.f2), .bool ((rd_T44 c a).f1.f3), .int .u8 ((rd_T44 c a).f2)] 44 (0, 0))) := ⟨(by rw [hw]; exact (by first | exact put6 I.out | (simp only [← am.out]; exact put6 I.out)))⟩; replace HB : Aside0 (Below w.heap.size w ce) := ⟨by rw [hw]; exact bl_⟩; clear hw; obtain ⟨dl, dm, dn, dp, dq, dr, eC, eD, eE, eF, eG, eH⟩ := cells6 d.out) | ((with_reducible refine gate_callee (f := 22) rfl ?_); refine goesL_ (some 65) rfl rfl Tryd.func22 (by kernel_rfl) rfl #[.agg #[.int .i64 j, .int .i64 l, .slice (some av) b.length W, .int .i64 m, .bool n, .bool o], .int .i64 a] rfl ag_ ?_; (with_reducible refine (shutterref11_Open.calls k1 j l _ _ b m n o a true _ ?side1 ?side2 fV.out).mono ?_); (case side1 => repeat (first | exact (Kd.C_below ae.out HB.out) | (with_reducible apply pC))); (case side2 => exact al.out); rintro e lG ⟨rfl, hb⟩; refine ⟨_, rfl, ?_⟩; replace HO_492002 := Z (vb HO_492002.out hb); replace d := Z (kb d.out hb); replace i := Z (kb i.out hb); replace z := Z (kb z.out hb); replace I := Z (kb I.out hb); replace HB := Z (below_step bl_ hb); (try clear hb); (try clear aq); (try clear hk); (try clear hi); obtain ⟨ds, dt, du, dv, dw, dx, eI, eJ, eK, eL, eM, eN⟩ := cells6 I.out))
                go_roundg k1
                case measure => have := aS.out; omega
                case rel => exact ⟨(wrap64 (a + 1)), (dn_), H', ⟨by have := aS.out; omega⟩, ⟨by (with_reducible repeat apply pV); exact Kd.V_mono HO_492002.out (fun _ hk => ⟨hk.1, hk.2.1⟩)⟩, ⟨vK d.out⟩, ⟨vK i.out⟩, ⟨bl_⟩⟩
               ·rw [if_neg aZ] at H
                exact absurd H (by simp)
             ·replace ct := Bool.eq_false_iff.mpr ct
              subst ct
              have H1 : (if (rd_T44 b a).f0 = true then (shutterlaw13_HostClean.j1 k1 a (!((rd_T44 b a).f1.f0)) j l b m n o A B c u false false ((rd_T44 b a).f0) ((rd_T44 b a).f1.f0) ((rd_T44 b a).f1.f1) ((rd_T44 b a).f1.f2) ((rd_T44 b a).f1.f3) ((rd_T44 b a).f2) ((rd_T44 c a).f0) ((rd_T44 c a).f1.f0) ((rd_T44 c a).f1.f1) ((rd_T44 c a).f1.f2) ((rd_T44 c a).f1.f3) ((rd_T44 c a).f2)) else (shutterlaw13_HostClean.j1 k1 a false j l b m n o A B c u false false ((rd_T44 b a).f0) ((rd_T44 b a).f1.f0) ((rd_T44 b a).f1.f1) ((rd_T44 b a).f1.f2) ((rd_T44 b a).f1.f3) ((rd_T44 b a).f2) ((rd_T44 c a).f0) ((rd_T44 c a).f1.f0) ((rd_T44 c a).f1.f1) ((rd_T44 c a).f1.f2) ((rd_T44 c a).f1.f3) ((rd_T44 c a).f2))) = some r := by rw [if_neg (show ¬ (false = true) by decide)] at H; exact H
              clear H
              have H := H1
              clear H1
              have cz := Z H
              clear H
              have jM := P.out
              have ki := ag.out
              obtain ⟨dy, dz, dA, dB, dC, dD, eO, eP, eQ, eR, eS, eT⟩ := cells6 d.out
              have aD : 0 ≤ (a : Int) := od_
              have aF : a < (b.length : Int) := od_
              obtain ⟨av, cA, Y, aa, ab, ah, ac, ai⟩ := at_T44 ae.out a aD aF
              cases cA
              replace Y := (HB.out.cell (bk_ w _ Y)).trans Y
              replace aa := (HB.out.cell (bk_ w _ aa)).trans aa
              replace ab := (HB.out.cell (bk_ w _ ab)).trans ab
              replace ah := (HB.out.cell (bk_ w _ ah)).trans ah
              replace ac := (HB.out.cell (bk_ w _ ac)).trans ac
              replace ai := (HB.out.cell (bk_ w _ ai)).trans ai
              replace aD := eq_true aD
              replace aF := eq_true aF
              go_upto_region 14 with (first | ((with_reducible refine gate_dst (N := 6) rfl ?_); (try (refine gate_guard (by rfl) ?_; dsimp only)); refine bx_ 6 44 #[.bool false, .bool false, .bool false, .int .i64 0, .bool false, .int .u8 0] ?_; intro D hg jB hbox hb; replace HO_492002 := Z (ve HO_492002.out hg hb); have z := Z (hbox); have fJ := Z (ln_ hg : w.heap.size ≤ D); have fH := Z (ln_ hg : w.heap.size ≤ D); replace HB := Z (below_step bl_ hb); have K := Z (nl d.out hg); have S := Z (ng d.out hg); replace d := Z (kb d.out hb); have L := Z (nl i.out hg); have T := Z (ng i.out hg); replace i := Z (kb i.out hb); clear hb hbox hg; have jN := S.out; have kj := K.out; have jO := T.out; have kk := L.out; obtain ⟨dE, dF, dG, dH, dI, dJ, eU, eV, eW, eX, eY, eZ⟩ := cells6 z.out) | ((with_reducible refine gate_store (t := 44) (p := 6) rfl ?_); refine sx_ 44 6 ((((((jB.setCell ⟨D, 0, none⟩ (.bool ((rd_T44 b a).f0))).setCell ⟨D, 1, none⟩ (.bool ((rd_T44 b a).f1.f0))).setCell ⟨D, 2, none⟩ (.bool ((rd_T44 b a).f1.f1))).setCell ⟨D, 3, none⟩ (.int .i64 ((rd_T44 b a).f1.f2))).setCell ⟨D, 4, none⟩ (.bool ((rd_T44 b a).f1.f3))).setCell ⟨D, 5, none⟩ (.int .u8 ((rd_T44 b a).f2))) ?_; intro cy hw; replace HO_492002 : Aside0 (Kd.V k44 44 cy w.heap.size (fun k_ => k_ ≠ J ∧ k_ ≠ E ∧ k_ ≠ D) (.slice aA c.length af) c) := ⟨(by rw [hw]; exact (by (with_reducible repeat apply pV); exact V_off HO_492002.out (fun k_ hk => hk.2) off2_ (fun _ hk => ⟨hk.1.1, ⟨hk.1.2, hk.2⟩⟩)))⟩; replace d : Aside0 (cy.heap[J]? = some (.cells #[.int .i64 j, .int .i64 l, .slice (some av) b.length W, .int .i64 m, .bool n, .bool o] 24 (0, 0))) := ⟨(by rw [hw]; exact (by (with_reducible repeat apply pK); exact blk_off d.out K.out off2_))⟩; replace i : Aside0 (cy.heap[E]? = some (.cells #[.int .i64 A, .int .i64 B, .slice aA c.length af, .int .i64 u, .bool false, .bool false] 24 (0, 0))) := ⟨(by rw [hw]; exact (by (with_reducible repeat apply pK); exact blk_off i.out L.out off2_))⟩; replace z : Aside0 (cy.heap[D]? = some (.cells #[.bool ((rd_T44 b a).f0), .bool ((rd_T44 b a).f1.f0), .bool ((rd_T44 b a).f1.f1), .int .i64 ((rd_T44 b a).f1.f2), .bool ((rd_T44 b a).f1.f3), .int .u8 ((rd_T44 b a).f2)] 44 (0, 0))) := ⟨by rw [hw]; exact (put6 z.out)⟩; replace HB : Aside0 (Below w.heap.size w cy) := ⟨by rw [hw]; exact bl_⟩; clear hw; obtain ⟨dK, dL, dM, dN, dO, dP, e0, e1, e2, e3, e4, e5⟩ := cells6 i.out; have aE : 0 ≤ (a : Int) := od_; have aG : a < (c.length : Int) := od_; obtain ⟨aB, cB, aK, aL, aM, cc, aN, cd⟩ := at_T44 (Kd.V_reads' HO_492002.out).2.2 a aE aG; cases cB; replace aE := eq_true aE; replace aG := eq_true aG) | ((with_reducible refine gate_dst (N := 7) rfl ?_); (try (refine gate_guard (by rfl) ?_; dsimp only)); refine bx_ 7 44 #[.bool false, .bool false, .bool false, .int .i64 0, .bool false, .int .u8 0] ?_; intro F hg jC hbox hb; replace HO_492002 := Z (ve HO_492002.out hg hb); have I := Z (hbox); have fK := Z (ln_ hg : w.heap.size ≤ F); have fI := Z (ln_ hg : w.heap.size ≤ F); replace HB := Z (below_step bl_ hb); have Q := Z (nl d.out hg); have an := Z (ng d.out hg); replace d := Z (kb d.out hb); have R := Z (nl i.out hg); have ao := Z (ng i.out hg); replace i := Z (kb i.out hb); have M := Z (nl z.out hg); have U := Z (ng z.out hg); replace z := Z (kb z.out hb); clear hb hbox hg; have jP := an.out; have kl := Q.out; have jQ := ao.out; have km := R.out; have jR := U.out; have kn := M.out; obtain ⟨dQ, dR, dS, dT, dU, dV, e6, e7, e8, e9, fa, fc⟩ := cells6 I.out) | ((with_reducible refine gate_store (t := 44) (p := 7) rfl ?_); refine sx_ 44 7 ((((((jC.setCell ⟨F, 0, none⟩ (.bool ((rd_T44 c a).f0))).setCell ⟨F, 1, none⟩ (.bool ((rd_T44 c a).f1.f0))).setCell ⟨F, 2, none⟩ (.bool ((rd_T44 c a).f1.f1))).setCell ⟨F, 3, none⟩ (.int .i64 ((rd_T44 c a).f1.f2))).setCell ⟨F, 4, none⟩ (.bool ((rd_T44 c a).f1.f3))).setCell ⟨F, 5, none⟩ (.int .u8 ((rd_T44 c a).f2))) ?_; intro cf hw; replace HO_492002 : Aside0 (Kd.V k44 44 cf w.heap.size (fun k_ => k_ ≠ J ∧ k_ ≠ E ∧ k_ ≠ D ∧ k_ ≠ F) (.slice (some aB) c.length af) c) := ⟨(by rw [hw]; exact (by (with_reducible repeat apply pV); exact V_off HO_492002.out (fun k_ hk => hk.2) off2_ (fun _ hk => ⟨hk.1.1, ⟨hk.1.2.1, ⟨hk.1.2.2, hk.2⟩⟩⟩)))⟩; replace d : Aside0 (cf.heap[J]? = some (.cells #[.int .i64 j, .int .i64 l, .slice (some av) b.length W, .int .i64 m, .bool n, .bool o] 24 (0, 0))) := ⟨(by rw [hw]; exact (by (with_reducible repeat apply pK); exact blk_off d.out Q.out off2_))⟩; replace i : Aside0 (cf.heap[E]? = some (.cells #[.int .i64 A, .int .i64 B, .slice (some aB) c.length af, .int .i64 u, .bool false, .bool false] 24 (0, 0))) := ⟨(by rw [hw]; exact (by (with_reducible repeat apply pK); exact blk_off i.out R.out off2_))⟩; replace z : Aside0 (cf.heap[D]? = some (.cells #[.bool ((rd_T44 b a).f0), .bool ((rd_T44 b a).f1.f0), .bool ((rd_T44 b a).f1.f1), .int .i64 ((rd_T44 b a).f1.f2), .bool ((rd_T44 b a).f1.f3), .int .u8 ((rd_T44 b a).f2)] 44 (0, 0))) := ⟨(by rw [hw]; exact (by (with_reducible repeat apply pK); exact blk_off z.out M.out off2_))⟩; replace I : Aside0 (cf.heap[F]? = some (.cells #[.bool ((rd_T44 c a).f0), .bool ((rd_T44 c a).f1.f0), .bool ((rd_T44 c a).f1.f1), .int .i64 ((rd_T44 c a).f1.f2), .bool ((rd_T44 c a).f1.f3), .int .u8 ((rd_T44 c a).f2)] 44 (0, 0))) := ⟨by rw [hw]; exact (put6 I.out)⟩; replace HB : Aside0 (Below w.heap.size w cf) := ⟨by rw [hw]; exact bl_⟩; clear hw; obtain ⟨dW, dX, dY, dZ, d0, d1, fd, fe, ff, fg, fh, fi⟩ := cells6 d.out) | ((with_reducible refine gate_callee (f := 22) rfl ?_); refine goesL_ (some 65) rfl rfl Tryd.func22 (by kernel_rfl) rfl #[.agg #[.int .i64 j, .int .i64 l, .slice (some av) b.length W, .int .i64 m, .bool n, .bool o], .int .i64 a] rfl ag_ ?_; (with_reducible refine (shutterref11_Open.calls k1 j l _ _ b m n o a false _ ?side1 ?side2 fV.out).mono ?_); (case side1 => repeat (first | exact (Kd.C_below ae.out HB.out) | (with_reducible apply pC))); (case side2 => exact al.out); rintro e lH ⟨rfl, hb⟩; refine ⟨_, rfl, ?_⟩; replace HO_492002 := Z (vb HO_492002.out hb); replace d := Z (kb d.out hb); replace i := Z (kb i.out hb); replace z := Z (kb z.out hb); replace I := Z (kb I.out hb); replace HB := Z (below_step bl_ hb); (try clear hb); (try clear aq); (try clear hk); (try clear hi)))
              (try simp only [Act.put, sA, sB, sC])
              go_cut [80] (fun jx wc => ∃ (kq : Nat) (aJ : Bool), jx = .bool aJ ∧ Aside0 (shutterlaw13_HostClean.j1 kq a aJ j l b m n o A B c u false false ((rd_T44 b a).f0) ((rd_T44 b a).f1.f0) ((rd_T44 b a).f1.f1) ((rd_T44 b a).f1.f2) ((rd_T44 b a).f1.f3) ((rd_T44 b a).f2) ((rd_T44 c a).f0) ((rd_T44 c a).f1.f0) ((rd_T44 c a).f1.f1) ((rd_T44 c a).f1.f2) ((rd_T44 c a).f1.f3) ((rd_T44 c a).f2) = some r) ∧ Aside0 (kq ≤ k1) ∧ Aside0 (Kd.V k44 44 wc w.heap.size (fun k_ => k_ ≠ J ∧ k_ ≠ E ∧ k_ ≠ D ∧ k_ ≠ F) (.slice (some aB) c.length af) c) ∧ Aside0 (wc.heap[J]? = some (.cells #[.int .i64 j, .int .i64 l, (.slice (some av) b.length W), .int .i64 m, .bool n, .bool o] 24 (0, 0))) ∧ Aside0 (wc.heap[E]? = some (.cells #[.int .i64 A, .int .i64 B, (.slice (some aB) c.length af), .int .i64 u, .bool false, .bool false] 24 (0, 0))) ∧ Aside0 (wc.heap[D]? = some (.cells #[.bool ((rd_T44 b a).f0), .bool ((rd_T44 b a).f1.f0), .bool ((rd_T44 b a).f1.f1), .int .i64 ((rd_T44 b a).f1.f2), .bool ((rd_T44 b a).f1.f3), .int .u8 ((rd_T44 b a).f2)] 44 (0, 0))) ∧ Aside0 (wc.heap[F]? = some (.cells #[.bool ((rd_T44 c a).f0), .bool ((rd_T44 c a).f1.f0), .bool ((rd_T44 c a).f1.f1), .int .i64 ((rd_T44 c a).f1.f2), .bool ((rd_T44 c a).f1.f3), .int .u8 ((rd_T44 c a).f2)] 44 (0, 0))) ∧ Aside0 (Below w.heap.size w wc))
              case first =>
               have H := cz.out
               clear cz
               obtain ⟨cj, cn⟩ : ∃ b_ : Bool, b_ = ((rd_T44 b a).f0) := ⟨_, rfl⟩
               replace H : (if cj = true then (shutterlaw13_HostClean.j1 k1 a (!((rd_T44 b a).f1.f0)) j l b m n o A B c u false false cj ((rd_T44 b a).f1.f0) ((rd_T44 b a).f1.f1) ((rd_T44 b a).f1.f2) ((rd_T44 b a).f1.f3) ((rd_T44 b a).f2) ((rd_T44 c a).f0) ((rd_T44 c a).f1.f0) ((rd_T44 c a).f1.f1) ((rd_T44 c a).f1.f2) ((rd_T44 c a).f1.f3) ((rd_T44 c a).f2)) else (shutterlaw13_HostClean.j1 k1 a false j l b m n o A B c u false false cj ((rd_T44 b a).f1.f0) ((rd_T44 b a).f1.f1) ((rd_T44 b a).f1.f2) ((rd_T44 b a).f1.f3) ((rd_T44 b a).f2) ((rd_T44 c a).f0) ((rd_T44 c a).f1.f0) ((rd_T44 c a).f1.f1) ((rd_T44 c a).f1.f2) ((rd_T44 c a).f1.f3) ((rd_T44 c a).f2))) = some r := by rw [← cn] at H; exact H
               have ci := Z cn
               clear cn
               (try rw [← ci.out])
               by_cases cv : cj = true
               ·subst cv
                have H1 : (shutterlaw13_HostClean.j1 k1 a (!((rd_T44 b a).f1.f0)) j l b m n o A B c u false false true ((rd_T44 b a).f1.f0) ((rd_T44 b a).f1.f1) ((rd_T44 b a).f1.f2) ((rd_T44 b a).f1.f3) ((rd_T44 b a).f2) ((rd_T44 c a).f0) ((rd_T44 c a).f1.f0) ((rd_T44 c a).f1.f1) ((rd_T44 c a).f1.f2) ((rd_T44 c a).f1.f3) ((rd_T44 c a).f2)) = some r := by rw [if_pos rfl] at H; exact H
                clear H
                have H := H1
                clear H1
                have H' := Z H
                clear H
                have jS := S.out
                have ko := K.out
                have jT := T.out
                have kp := L.out
                have jU := M.out
                have kr := U.out
                obtain ⟨d2, d3, d4, d5, d6, d7, fj, fk, fl, fm, fn, fo⟩ := cells6 z.out
                have qx_ := ci.out.symm
                go_wp2
                go_meet
                case rel => exact ⟨_, (!((rd_T44 b a).f1.f0)), (dn_), (by first | exact H' | (simp only [← ci.out]; exact H')), ⟨by have := aS.out; first | omega | exact Nat.le_refl _⟩, ⟨vV HO_492002.out⟩, ⟨vK d.out⟩, ⟨vK i.out⟩, ⟨vK z.out⟩, ⟨vK I.out⟩, ⟨bl_⟩⟩
               ·replace cv := Bool.eq_false_iff.mpr cv
                subst cv
                have H1 : (shutterlaw13_HostClean.j1 k1 a false j l b m n o A B c u false false false ((rd_T44 b a).f1.f0) ((rd_T44 b a).f1.f1) ((rd_T44 b a).f1.f2) ((rd_T44 b a).f1.f3) ((rd_T44 b a).f2) ((rd_T44 c a).f0) ((rd_T44 c a).f1.f0) ((rd_T44 c a).f1.f1) ((rd_T44 c a).f1.f2) ((rd_T44 c a).f1.f3) ((rd_T44 c a).f2)) = some r := by rw [if_neg (show ¬ (false = true) by decide)] at H; exact H
                clear H
                have H := H1
                clear H1
                have H' := Z H
                clear H
                have jV := S.out
                have ks := K.out
                have jW := T.out
                have kt := L.out
                have jX := M.out
                have ku := U.out
                obtain ⟨d8, d9, ea, eb, ec, ed, fp, fq, fr, fs, ft, fu⟩ := cells6 z.out
                have qx_ := ci.out.symm
                go_wp2
                go_meet
                case rel => exact ⟨_, (false), (dn_), (by first | exact H' | (simp only [← ci.out]; exact H')), ⟨by have := aS.out; first | omega | exact Nat.le_refl _⟩, ⟨vV HO_492002.out⟩, ⟨vK d.out⟩, ⟨vK i.out⟩, ⟨vK z.out⟩, ⟨vK I.out⟩, ⟨bl_⟩⟩
              case rest =>
               clear cz
               try clear c1
               try clear c2
               try clear p2
               try clear c3
               try clear q3
               try clear c4
               try clear p4
               try clear q4
               try clear lv
               try clear c5
               try clear p5
               try clear q5
               try clear lw
               try clear c6
               try clear p6
               try clear q6
               try clear c7
               try clear c8
               try clear c9
               try clear fA
               try clear fB
               try clear fC
               try clear c10
               try clear aY
               try clear jr
               try clear lc
               try clear aT
               try clear cI
               try clear cq
               try clear fL
               try clear cr
               try clear fM
               try clear ct
               try clear lx
               try clear cu
               try clear aZ
               try clear fN
               try clear fO
               try clear ld
               try clear le
               try clear lf
               try clear lg
               try clear lh
               try clear li
               try clear p49
               try clear ly
               try clear kN
               try clear p50
               try clear lz
               try clear kO
               try clear lj
               try clear lk
               try clear ll
               try clear lm
               try clear ln
               try clear lo
               try clear p64
               try clear lA
               try clear cv
               try clear lp
               try clear lq
               try clear lr
               try clear ls
               try clear lt
               try clear lu
               try clear a1
               try clear a2
               try clear a3
               try clear a4
               try clear a5
               try clear a6
               try clear a7
               try clear a8
               try clear a9
               try clear ba
               try clear bb
               try clear bc
               try clear bd
               try clear be
               try clear bf
               try clear bg
               try clear bh
               try clear bi
               try clear bj
               try clear bk
               try clear bl
               try clear bm
               try clear bn
               try clear bo
               try clear bp
               try clear bq
               try clear br
               try clear bs
               try clear bt
               try clear bu
               try clear bv
               try clear bw
               try clear bx
               try clear bz
               try clear bA
               try clear bB
               try clear cO
               try clear cP
               try clear cQ
               try clear cR
               try clear cS
               try clear cT
               try clear cU
               try clear cV
               try clear cW
               try clear cX
               try clear cY
               try clear cZ
               try clear c0
               try clear da
               try clear db
               try clear dc
               try clear dd
               try clear de
               try clear df
               try clear dg
               try clear dh
               try clear di
               try clear dj
               try clear dk
               try clear dl
               try clear dm
               try clear dn
               try clear dp
               try clear dq
               try clear dr
               try clear ds
               try clear dt
               try clear du
               try clear dv
               try clear dw
               try clear dx
               try clear dy
               try clear dz
               try clear dA
               try clear dB
               try clear dC
               try clear dD
               try clear dE
               try clear dF
               try clear dG
               try clear dH
               try clear dI
               try clear dJ
               try clear dK
               try clear dL
               try clear dM
               try clear dN
               try clear dO
               try clear dP
               try clear dQ
               try clear dR
               try clear dS
               try clear dT
               try clear dU
               try clear dV
               try clear dW
               try clear dX
               try clear dY
               try clear dZ
               try clear d0
               try clear d1
               try clear d2
               try clear d3
               try clear d4
               try clear d5
               try clear d6
               try clear d7
               try clear d8
               try clear d9
               try clear ea
               try clear eb
               try clear ec
               try clear ed
               try clear bC
               try clear bD
               try clear bE
               try clear bF
               try clear bG
               try clear bH
               try clear bI
               try clear bJ
               try clear bK
               try clear bL
               try clear bM
               try clear bN
               try clear bO
               try clear bP
               try clear bQ
               try clear bR
               try clear bS
               try clear bT
               try clear bU
               try clear bV
               try clear bW
               try clear bX
               try clear bY
               try clear bZ
               try clear b0
               try clear b1
               try clear b2
               try clear b3
               try clear b4
               try clear b5
               try clear b6
               try clear b7
               try clear b8
               try clear b9
               try clear ca
               try clear cb
               try clear ee
               try clear ef
               try clear eg
               try clear eh
               try clear ei
               try clear ej
               try clear ek
               try clear el
               try clear em
               try clear en
               try clear eo
               try clear ep
               try clear eq
               try clear er
               try clear es
               try clear et
               try clear eu
               try clear ev
               try clear ew
               try clear ex
               try clear ey
               try clear ez
               try clear eA
               try clear eB
               try clear eC
               try clear eD
               try clear eE
               try clear eF
               try clear eG
               try clear eH
               try clear eI
               try clear eJ
               try clear eK
               try clear eL
               try clear eM
               try clear eN
               try clear eO
               try clear eP
               try clear eQ
               try clear eR
               try clear eS
               try clear eT
               try clear eU
               try clear eV
               try clear eW
               try clear eX
               try clear eY
               try clear eZ
               try clear e0
               try clear e1
               try clear e2
               try clear e3
               try clear e4
               try clear e5
               try clear e6
               try clear e7
               try clear e8
               try clear e9
               try clear fa
               try clear fc
               try clear fd
               try clear fe
               try clear ff
               try clear fg
               try clear fh
               try clear fi
               try clear fj
               try clear fk
               try clear fl
               try clear fm
               try clear fn
               try clear fo
               try clear fp
               try clear fq
               try clear fr
               try clear fs
               try clear ft
               try clear fu
               try clear Y
               try clear aa
               try clear ab
               try clear ah
               try clear ac
               try clear ai
               try clear aK
               try clear aL
               try clear aM
               try clear cc
               try clear aN
               try clear cd
               try clear p2
               try clear aD
               try clear aE
               try clear q4
               try clear cC
               try clear aF
               try clear aG
               obtain ⟨kq, aJ, rfl, HA, ch, HO_492002, d, i, z, I, HB⟩ := hcut
               cases kq with
               | zero => exact absurd HA.out (by simp [shutterlaw13_HostClean.j1])
               | succ co =>
                have H := HA.out
                clear HA
                simp only [shutterlaw13_HostClean.j1] at H
                by_cases cJ : aJ = true
                ·subst cJ
                 have H1 : (if (!(((rd_T44 b a).f0) == ((rd_T44 c a).f0)) || ((!(((rd_T44 b a).f1.f0) == ((rd_T44 c a).f1.f0)) || (!(((rd_T44 b a).f1.f1) == ((rd_T44 c a).f1.f1)) || (!(((rd_T44 b a).f1.f2) == ((rd_T44 c a).f1.f2)) || (((rd_T44 c a).f1.f3))))) || (!(((rd_T44 b a).f2) == ((rd_T44 c a).f2))))) = true then (none) else (shutterlaw13_HostClean.l0 co (wrap64 (a + 1)) j l b m n o A B c u false false)) = some r := by rw [if_pos rfl] at H; exact H
                 clear H
                 have H := H1
                 clear H1
                 by_cases cK : (!(((rd_T44 b a).f0) == ((rd_T44 c a).f0)) || ((!(((rd_T44 b a).f1.f0) == ((rd_T44 c a).f1.f0)) || (!(((rd_T44 b a).f1.f1) == ((rd_T44 c a).f1.f1)) || (!(((rd_T44 b a).f1.f2) == ((rd_T44 c a).f1.f2)) || (((rd_T44 c a).f1.f3))))) || (!(((rd_T44 b a).f2) == ((rd_T44 c a).f2))))) = true
                 ·rw [if_pos cK] at H
                  exact absurd H (by simp)
                 ·rw [if_neg cK] at H
                  have fP : (!(((rd_T44 b a).f0) == ((rd_T44 c a).f0)) || ((!(((rd_T44 b a).f1.f0) == ((rd_T44 c a).f1.f0)) || (!(((rd_T44 b a).f1.f1) == ((rd_T44 c a).f1.f1)) || (!(((rd_T44 b a).f1.f2) == ((rd_T44 c a).f1.f2)) || (((rd_T44 c a).f1.f3))))) || (!(((rd_T44 b a).f2) == ((rd_T44 c a).f2))))) = false := by simpa using cK
                  clear cK
                  have H' := Z H
                  clear H
                  have jY := S.out
                  have kv := K.out
                  have jZ := T.out
                  have kw := L.out
                  have j0 := M.out
                  have kx := U.out
                  obtain ⟨ir, it, iu, iv, iw, ix, iQ, iR, iS, iT, iU, iV⟩ := cells6 z.out
                  have j2 := an.out
                  have ky := Q.out
                  have j3 := ao.out
                  have kz := R.out
                  obtain ⟨iy, iz, iA, iB, iC, iD, iW, iX, iY, iZ, ja, jb⟩ := cells6 I.out
                  go_wp2
                  any_goals (first | (exfalso; rename_i hq_; exact Bool.noConfusion ((show (!(((rd_T44 b a).f0) == ((rd_T44 c a).f0)) || ((!(((rd_T44 b a).f1.f0) == ((rd_T44 c a).f1.f0)) || (!(((rd_T44 b a).f1.f1) == ((rd_T44 c a).f1.f1)) || (!(((rd_T44 b a).f1.f2) == ((rd_T44 c a).f1.f2)) || (((rd_T44 c a).f1.f3))))) || (!(((rd_T44 b a).f2) == ((rd_T44 c a).f2))))) = true by simpa using hq_).symm.trans fP)) | skip)
                  go_roundg co
                  case measure => have := aS.out; have := ch.out; omega
                  case rel => exact ⟨(wrap64 (a + 1)), (dn_), H', ⟨by have := aS.out; have := ch.out; omega⟩, ⟨by (with_reducible repeat apply pV); exact Kd.V_mono (Kd.V_far (p := ⟨D, 4, none⟩) (Kd.V_mono HO_492002.out (fun k_ hk => (⟨hk, hk.2.2.1⟩ : _ ∧ k_ ≠ D))) (fun _ hk => hk.2) (.bool false)) (fun _ hk => ⟨hk.1.1, hk.1.2.1⟩)⟩, ⟨by (with_reducible repeat apply pK); exact blk_off d.out K.out off2_⟩, ⟨by (with_reducible repeat apply pK); exact blk_off i.out L.out off2_⟩, ⟨bl_⟩⟩
                ·replace cJ := Bool.eq_false_iff.mpr cJ
                 subst cJ
                 have H1 : (if (!(((rd_T44 b a).f0) == ((rd_T44 c a).f0)) || ((!(((rd_T44 b a).f1.f0) == ((rd_T44 c a).f1.f0)) || (!(((rd_T44 b a).f1.f1) == ((rd_T44 c a).f1.f1)) || (!(((rd_T44 b a).f1.f2) == ((rd_T44 c a).f1.f2)) || (!(((rd_T44 b a).f1.f3) == ((rd_T44 c a).f1.f3)))))) || (!(((rd_T44 b a).f2) == ((rd_T44 c a).f2))))) = true then (none) else (shutterlaw13_HostClean.l0 co (wrap64 (a + 1)) j l b m n o A B c u false false)) = some r := by rw [if_neg (show ¬ (false = true) by decide)] at H; exact H
                 clear H
                 have H := H1
                 clear H1
                 by_cases cL : (!(((rd_T44 b a).f0) == ((rd_T44 c a).f0)) || ((!(((rd_T44 b a).f1.f0) == ((rd_T44 c a).f1.f0)) || (!(((rd_T44 b a).f1.f1) == ((rd_T44 c a).f1.f1)) || (!(((rd_T44 b a).f1.f2) == ((rd_T44 c a).f1.f2)) || (!(((rd_T44 b a).f1.f3) == ((rd_T44 c a).f1.f3)))))) || (!(((rd_T44 b a).f2) == ((rd_T44 c a).f2))))) = true
                 ·rw [if_pos cL] at H
                  exact absurd H (by simp)
                 ·rw [if_neg cL] at H
                  have fQ : (!(((rd_T44 b a).f0) == ((rd_T44 c a).f0)) || ((!(((rd_T44 b a).f1.f0) == ((rd_T44 c a).f1.f0)) || (!(((rd_T44 b a).f1.f1) == ((rd_T44 c a).f1.f1)) || (!(((rd_T44 b a).f1.f2) == ((rd_T44 c a).f1.f2)) || (!(((rd_T44 b a).f1.f3) == ((rd_T44 c a).f1.f3)))))) || (!(((rd_T44 b a).f2) == ((rd_T44 c a).f2))))) = false := by simpa using cL
                  clear cL
                  have H' := Z H
                  clear H
                  have j4 := S.out
                  have kA := K.out
                  have j5 := T.out
                  have kB := L.out
                  have j6 := M.out
                  have kC := U.out
                  obtain ⟨iE, iF, iG, iH, iI, iJ, jc, jd, je, jf, jg, jh⟩ := cells6 z.out
                  have j7 := an.out
                  have kD := Q.out
                  have j8 := ao.out
                  have kE := R.out
                  obtain ⟨iK, iL, iM, iN, iO, iP, ji, jj, jk, jl, jm, jn⟩ := cells6 I.out
                  go_wp2
                  any_goals (first | (exfalso; rename_i hq_; exact Bool.noConfusion ((show (!(((rd_T44 b a).f0) == ((rd_T44 c a).f0)) || ((!(((rd_T44 b a).f1.f0) == ((rd_T44 c a).f1.f0)) || (!(((rd_T44 b a).f1.f1) == ((rd_T44 c a).f1.f1)) || (!(((rd_T44 b a).f1.f2) == ((rd_T44 c a).f1.f2)) || (!(((rd_T44 b a).f1.f3) == ((rd_T44 c a).f1.f3)))))) || (!(((rd_T44 b a).f2) == ((rd_T44 c a).f2))))) = true by simpa using hq_).symm.trans fQ)) | skip)
                  go_roundg co
                  case measure => have := aS.out; have := ch.out; omega
                  case rel => exact ⟨(wrap64 (a + 1)), (dn_), H', ⟨by have := aS.out; have := ch.out; omega⟩, ⟨by (with_reducible repeat apply pV); exact Kd.V_mono HO_492002.out (fun _ hk => ⟨hk.1, hk.2.1⟩)⟩, ⟨vK d.out⟩, ⟨vK i.out⟩, ⟨bl_⟩⟩
            ·rw [if_neg cr] at H
             exact absurd H (by simp)
           ·rw [if_neg cq] at H
            exact absurd H (by simp)
          ·rw [if_neg aT] at H
           have cI : decide (a < (b.length : Int)) = false := decide_eq_false aT
           clear aT
           replace H := Option.bind_eq_some_iff.mp H
           obtain ⟨aI, fy, H⟩ := H
           replace H : (if aI < 0 then (if u = 0 then (some true) else ((shutterref11_Next.f k1 j l b m n o 0).bind fun aO => (if aO ≥ 0 then ((shutterref11_Open.f k1 A B c u false false u).bind fun aP => (some aP)) else (none)))) else ((shutterref11_Next.f k1 j l b m n o 0).bind fun aQ => (if aQ ≥ 0 then ((shutterref11_Open.f k1 A B c u false false u).bind fun aR => (some aR)) else (none)))) = some r := H
           have fx := Z fy
           clear fy
           by_cases a0 : aI < 0
           ·rw [if_pos a0] at H
            have fR : decide (aI < 0) = true := decide_eq_true a0
            clear a0
            by_cases aU : u = 0
            ·rw [if_pos aU] at H
             have fS : (u == 0) = true := beq_iff_eq.mpr aU
             have fT : (u != 0) = false := bne_eq_false_iff_eq.mpr aU
             clear aU
             obtain rfl := Option.some.inj H
             have j9 := P.out
             have kF := ag.out
             obtain ⟨gh, gi, gj, gl, gm, gn, hl, hm, hp, hq, hs, ht⟩ := cells6 d.out
             go_wp2_with (first | ((with_reducible refine gate_callee (f := 32) rfl ?_); refine goesL_ (some 87) rfl rfl Tryd.func32 (by kernel_rfl) rfl #[.agg #[.int .i64 j, .int .i64 l, .slice az b.length W, .int .i64 m, .bool n, .bool o], .int .i64 0] rfl ag_ ?_; (with_reducible refine (shutterref11_Next.calls k1 j l _ _ b m n o 0 aI _ ?side1 ?side2 fx.out).mono ?_); (case side1 => repeat (first | exact (Kd.C_below ae.out HB.out) | (with_reducible apply pC))); (case side2 => exact al.out); rintro e kR ⟨rfl, hb⟩; refine ⟨_, rfl, ?_⟩; replace HO_492002 := Z (vb HO_492002.out hb); replace d := Z (kb d.out hb); replace i := Z (kb i.out hb); replace HB := Z (below_step bl_ hb); (try clear hb); (try clear aq); (try clear hk); (try clear hi); obtain ⟨go, gp, gq, gr, gs, gt, hu, hv, hx, hy, hz, hA⟩ := cells6 i.out))
             go_ret
             exact ⟨er_, bl_⟩
            ·rw [if_neg aU] at H
             have fS : (u == 0) = false := beq_eq_false_iff_ne.mpr aU
             have fT : (u != 0) = true := bne_iff_ne.mpr aU
             replace H := Option.bind_eq_some_iff.mp H
             obtain ⟨aO, cD, H⟩ := H
             replace H : (if aO ≥ 0 then ((shutterref11_Open.f k1 A B c u false false u).bind fun aP => (some aP)) else (none)) = some r := H
             have gb := Z cD
             clear cD
             by_cases ck : aO ≥ 0
             ·rw [if_pos ck] at H
              have jp : decide (0 ≤ aO) = true := decide_eq_true ck
              clear ck
              replace H := Option.bind_eq_some_iff.mp H
              obtain ⟨aP, cE, H⟩ := H
              replace H : (some aP) = some r := H
              have gc := Z cE
              clear cE
              obtain rfl := Option.some.inj H
              have js := P.out
              have ju := ag.out
              obtain ⟨gu, gv, gw, gx, gy, gz, hB, hC, hD, hE, hF, hH⟩ := cells6 d.out
              go_wp2_with (first | ((with_reducible refine gate_callee (f := 32) rfl ?_); refine goesL_ (some 87) rfl rfl Tryd.func32 (by kernel_rfl) rfl #[.agg #[.int .i64 j, .int .i64 l, .slice az b.length W, .int .i64 m, .bool n, .bool o], .int .i64 0] rfl ag_ ?_; (with_reducible refine (shutterref11_Next.calls k1 j l _ _ b m n o 0 aI _ ?side1 ?side2 fx.out).mono ?_); (case side1 => repeat (first | exact (Kd.C_below ae.out HB.out) | (with_reducible apply pC))); (case side2 => exact al.out); rintro e kS ⟨rfl, hb⟩; refine ⟨_, rfl, ?_⟩; replace HO_492002 := Z (vb HO_492002.out hb); replace d := Z (kb d.out hb); replace i := Z (kb i.out hb); replace HB := Z (below_step bl_ hb); (try clear hb); (try clear aq); (try clear hk); (try clear hi); obtain ⟨gA, gB, gC, gD, gE, gF, hI, hJ, hK, hL, hM, hN⟩ := cells6 i.out; obtain ⟨gG, gH, gI, gJ, gK, gL, hO, hP, hQ, hR, hS, hT⟩ := cells6 d.out) | (go_at_call 32; (with_reducible refine (shutterref11_Next.calls k1 j l _ _ b m n o 0 aO _ ?side1 ?side2 gb.out).mono ?_); (case side1 => repeat (first | exact (Kd.C_below ae.out HB.out) | (with_reducible apply pC))); (case side2 => exact al.out); rintro e kT ⟨rfl, hb⟩; replace HO_492002 := Z (vb HO_492002.out hb); replace d := Z (kb d.out hb); replace i := Z (kb i.out hb); replace HB := Z (below_step bl_ hb); (try clear hb); (try clear aq); (try clear hk); (try clear hi); obtain ⟨gM, gN, gO, gP, gQ, gR, hU, hV, hW, hX, hY, hZ⟩ := cells6 i.out) | (go_at_call 22; (with_reducible refine (shutterref11_Open.calls k1 A B _ _ c u false false u aP _ ?side1 ?side2 gc.out).mono ?_); (case side1 => repeat (first | exact (Kd.V_reads' HO_492002.out).2.2 | (with_reducible apply pC))); (case side2 => exact (Kd.V_reads' HO_492002.out).2.1); rintro e kU ⟨rfl, hb⟩; replace HO_492002 := Z (vb HO_492002.out hb); replace d := Z (kb d.out hb); replace i := Z (kb i.out hb); replace HB := Z (below_step bl_ hb); (try clear hb); (try clear aq); (try clear hk); (try clear hi)))
              go_ret
              exact ⟨er_, bl_⟩
             ·rw [if_neg ck] at H
              exact absurd H (by simp)
           ·rw [if_neg a0] at H
            have fR : decide (aI < 0) = false := decide_eq_false a0
            clear a0
            replace H := Option.bind_eq_some_iff.mp H
            obtain ⟨aQ, cF, H⟩ := H
            replace H : (if aQ ≥ 0 then ((shutterref11_Open.f k1 A B c u false false u).bind fun aR => (some aR)) else (none)) = some r := H
            have gd := Z cF
            clear cF
            by_cases cl : aQ ≥ 0
            ·rw [if_pos cl] at H
             have jq : decide (0 ≤ aQ) = true := decide_eq_true cl
             clear cl
             replace H := Option.bind_eq_some_iff.mp H
             obtain ⟨aR, cG, H⟩ := H
             replace H : (some aR) = some r := H
             have ge := Z cG
             clear cG
             obtain rfl := Option.some.inj H
             have jt := P.out
             have jv := ag.out
             obtain ⟨gS, gT, gU, gV, gW, gX, h0, h1, h2, h3, h4, h5⟩ := cells6 d.out
             go_wp2_with (first | ((with_reducible refine gate_callee (f := 32) rfl ?_); refine goesL_ (some 87) rfl rfl Tryd.func32 (by kernel_rfl) rfl #[.agg #[.int .i64 j, .int .i64 l, .slice az b.length W, .int .i64 m, .bool n, .bool o], .int .i64 0] rfl ag_ ?_; (with_reducible refine (shutterref11_Next.calls k1 j l _ _ b m n o 0 aI _ ?side1 ?side2 fx.out).mono ?_); (case side1 => repeat (first | exact (Kd.C_below ae.out HB.out) | (with_reducible apply pC))); (case side2 => exact al.out); rintro e kV ⟨rfl, hb⟩; refine ⟨_, rfl, ?_⟩; replace HO_492002 := Z (vb HO_492002.out hb); replace d := Z (kb d.out hb); replace i := Z (kb i.out hb); replace HB := Z (below_step bl_ hb); (try clear hb); (try clear aq); (try clear hk); (try clear hi); obtain ⟨gY, gZ, g0, g1, g2, g3, h6, h7, h8, h9, ia, ib⟩ := cells6 d.out) | (go_at_call 32; (with_reducible refine (shutterref11_Next.calls k1 j l _ _ b m n o 0 aQ _ ?side1 ?side2 gd.out).mono ?_); (case side1 => repeat (first | exact (Kd.C_below ae.out HB.out) | (with_reducible apply pC))); (case side2 => exact al.out); rintro e kW ⟨rfl, hb⟩; replace HO_492002 := Z (vb HO_492002.out hb); replace d := Z (kb d.out hb); replace i := Z (kb i.out hb); replace HB := Z (below_step bl_ hb); (try clear hb); (try clear aq); (try clear hk); (try clear hi); obtain ⟨g4, g5, g6, g7, g8, g9, ic, id, ie, ig, ih, ii⟩ := cells6 i.out) | (go_at_call 22; (with_reducible refine (shutterref11_Open.calls k1 A B _ _ c u false false u aR _ ?side1 ?side2 ge.out).mono ?_); (case side1 => repeat (first | exact (Kd.V_reads' HO_492002.out).2.2 | (with_reducible apply pC))); (case side2 => exact (Kd.V_reads' HO_492002.out).2.1); rintro e kX ⟨rfl, hb⟩; replace HO_492002 := Z (vb HO_492002.out hb); replace d := Z (kb d.out hb); replace i := Z (kb i.out hb); replace HB := Z (below_step bl_ hb); (try clear hb); (try clear aq); (try clear hk); (try clear hi)))
             go_ret
             exact ⟨er_, bl_⟩
            ·rw [if_neg cl] at H
             exact absurd H (by simp)
     ·rw [if_neg c9] at H
      exact absurd H (by simp)
    ·replace c8 := Bool.eq_false_iff.mpr c8
     subst c8
     have H1 : (none) = some r := by rw [if_neg (show ¬ (false = true) by decide)] at H; exact H
     clear H
     have H := H1
     clear H1
     exact absurd H (by simp)
   ·have H1 : (none) = some r := by rw [if_neg (show ¬ (some cC).isNone = true by simp)] at H; exact H
    clear H
    have H := H1
    clear H1
    try simp only [errW_none, errW_some]
    exact absurd H (by simp)
  ·replace c5 := Bool.eq_false_iff.mpr c5
   subst c5
   have H1 : ((shutterlaw13_awake.f k).bind fun aj => (some aj)) = some r := by rw [if_neg (show ¬ (false = true) by decide)] at H; exact H
   clear H
   have H := H1
   clear H1
   replace H := Option.bind_eq_some_iff.mp H
   obtain ⟨aj, cH, H⟩ := H
   replace H : (some aj) = some r := H
   have fv := Z cH
   clear cH
   obtain rfl := Option.some.inj H
   go_enter Tryd.func9, Tryd.ntmps9
   go_wp2_with (first | ((with_reducible refine gate_dst (N := 1) rfl ?_); (try (refine gate_guard (by rfl) ?_; dsimp only)); refine bx_ 1 24 #[.int .i64 j, .int .i64 l, .slice az b.length W, .int .i64 m, .bool n, .bool o] ?_; intro J hg kY hbox hb; have d := Z (hbox); have cg := Z (ln_ hg : w.heap.size ≤ J); have fG := Z (ln_ hg : w.heap.size ≤ J); replace HB := Z (below_step bl_ hb); clear hb hbox hg) | ((with_reducible refine gate_callee (f := 28) rfl ?_); refine goesL_ (some 8) rfl rfl Tryd.func28 (by kernel_rfl) rfl #[] rfl ag_ ?_; (with_reducible refine (shutterlaw13_awake.calls k  true _ ?sideG A2.out).mono ?_); (case sideG => exact laidG_below HG.out bl_ rfl); rintro e kZ ⟨rfl, hb⟩; refine ⟨_, rfl, ?_⟩; replace d := Z (kb d.out hb); replace HB := Z (below_step bl_ hb); (try clear hb); (try clear aq); (try clear hk); (try clear hi); obtain ⟨ha, hc, he, hf, hh, hj, ij, ik, il, im, io, ip⟩ := cells6 d.out) | (go_at_call 15; (with_reducible refine (shutterref10_Few.calls k j l _ _ b m n o false _ ?side1 ?side2 A4.out).mono ?_); (case side1 => repeat (first | exact (Kd.C_below ae.out HB.out) | (with_reducible apply pC))); (case side2 => exact al.out); rintro e la ⟨rfl, hb⟩; replace d := Z (kb d.out hb); replace HB := Z (below_step bl_ hb); (try clear hb); (try clear aq); (try clear hk); (try clear hi)) | ((with_reducible refine gate_callee (f := 28) rfl ?_); refine goesL_ (some 15) rfl rfl Tryd.func28 (by kernel_rfl) rfl #[] rfl ag_ ?_; (with_reducible refine (shutterlaw13_awake.calls k  aj _ ?sideG fv.out).mono ?_); (case sideG => exact laidG_below HG.out bl_ rfl); rintro e lb ⟨rfl, hb⟩; refine ⟨_, rfl, ?_⟩; replace d := Z (kb d.out hb); replace HB := Z (below_step bl_ hb); (try clear hb); (try clear aq); (try clear hk); (try clear hi)))
   go_ret
   have e_ : aj = true := Option.some.inj (fv.out.symm.trans A2.out)
   exact ⟨er_, bl_⟩
 ·replace c3 := Bool.eq_false_iff.mpr c3
  subst c3
  have H1 : (none) = some r := by rw [if_neg (show ¬ (false = true) by decide)] at H; exact H
  clear H
  have H := H1
  clear H1
  exact absurd H (by simp)

end Go.Proofs.YtgboplhcjhlabaaDoor.P
