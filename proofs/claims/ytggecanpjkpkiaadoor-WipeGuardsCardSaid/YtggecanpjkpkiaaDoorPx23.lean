
/- The functions of the seat's laws as plain Lean functions, and that Go's code comes to just their answers. Written by pp.py (wip/tools), a program of this session, on the kit's print. -/
import Derived.Test.YtggecanpjkpkiaaDoorPx0
import Derived.Test.YtggecanpjkpkiaaDoorPx2
import Derived.Test.YtggecanpjkpkiaaDoorPx3
import Derived.Test.YtggecanpjkpkiaaDoorPx4
import Derived.Test.YtggecanpjkpkiaaDoorPx10
import Derived.Test.YtggecanpjkpkiaaDoorPx21
import Derived.Test.YtggecanpjkpkiaaDoorPx22
namespace Go.Proofs.YtggecanpjkpkiaaDoor.P
open Go.RowKit Go.Proofs.YtggecanpjkpkiaaDoorW.PrintWords Go.Proofs.YtggecanpjkpkiaaDoorW.PrintLast Go.Proofs.YtggecanpjkpkiaaDoorW.PrintMore
attribute [local go_sem] max2_int min2_int max_two min_two max_three min_three max_four min_four   -- for this text's walks alone
attribute [local go_sem] Instr.field asAgg
set_option linter.unusedVariables false
set_option linter.unusedSimpArgs false

attribute [local go_sem high] eqA35
/-! ### shutterlaw16_WipeGuards: function 3 -/
mutual
def shutterlaw16_WipeGuards.l0 : Nat → Int → Int → Int → Int → Int → List (S35) → Int → Bool → Bool → Int → Int → List (S35) → Int → Bool → Bool → Option Er → List (S164) → Option (Bool)
 | 0, _, _, _, _, _, _, _, _, _, _, _, _, _, _, _, _, _ => none
 | k + 1, s, r, c, g, h, b, i, j, l, m, n, a, o, p, q, d, e => if c < (b.length : Int) then (if 0 ≤ c then (if c < (a.length : Int) then (if (((rd_T35 a c).f0) == ((rd_T35 b c).f0) && ((((rd_T35 a c).f1.f0) == ((rd_T35 b c).f1.f0) && (((rd_T35 a c).f1.f1) == ((rd_T35 b c).f1.f1) && (((rd_T35 a c).f1.f2) == ((rd_T35 b c).f1.f2) && (((rd_T35 a c).f1.f3) == ((rd_T35 b c).f1.f3))))) && (((rd_T35 a c).f2) == ((rd_T35 b c).f2)))) = true then (shutterlaw16_WipeGuards.l0 k s r (wrap64 (c + 1)) g h b i j l m n a o p q d e) else (if d.isNone = true then (if s = 14 then (shutterlaw16_WipeGuards.j1 k s r c false g h b i j l m n a o p q ((rd_T35 a c).f0) ((rd_T35 a c).f1.f0) ((rd_T35 a c).f1.f1) ((rd_T35 a c).f1.f2) ((rd_T35 a c).f1.f3) ((rd_T35 a c).f2) none e) else ((shutterref11_Begin.f k g h b i j l c).bind fun t => (shutterlaw16_WipeGuards.j1 k s r c (t != r) g h b i j l m n a o p q ((rd_T35 a c).f0) ((rd_T35 a c).f1.f0) ((rd_T35 a c).f1.f1) ((rd_T35 a c).f1.f2) ((rd_T35 a c).f1.f3) ((rd_T35 a c).f2) none e))) else (none))) else (none)) else (none)) else (if d.isNone = true then (if s = 14 then (some true) else (if r < 0 then (some true) else (if 0 ≤ r then (if r < (a.length : Int) then (some ((rd_T35 a r).f1.f3)) else (none)) else (none)))) else (some true))
def shutterlaw16_WipeGuards.j1 : Nat → Int → Int → Int → Bool → Int → Int → List (S35) → Int → Bool → Bool → Int → Int → List (S35) → Int → Bool → Bool → Bool → Bool → Bool → Int → Bool → Int → Option Er → List (S164) → Option (Bool)
 | 0, _, _, _, _, _, _, _, _, _, _, _, _, _, _, _, _, _, _, _, _, _, _, _, _ => none
 | k + 1, y, A, j, z, d, e, a, g, h, i, l, m, n, o, p, q, r, s, t, u, x, v, b, c => if z = true then (none) else (if 0 ≤ j then (if j < (a.length : Int) then (if (rd_T35 a j).f0 = true then (if (!(r == ((rd_T35 a j).f0)) || ((!(s == ((rd_T35 a j).f1.f0)) || (!(t == ((rd_T35 a j).f1.f1)) || (!(u == ((rd_T35 a j).f1.f2))))) || (!(v == ((rd_T35 a j).f2))))) = true then (none) else (shutterlaw16_WipeGuards.l0 k y A (wrap64 (j + 1)) d e a g h i l m n o p q b c)) else ((shutterref11_Open.f k d e a g h i j).bind fun w => (if w = true then (if r = true then (none) else (shutterlaw16_WipeGuards.l0 k y A (wrap64 (j + 1)) d e a g h i l m n o p q b c)) else (none)))) else (none)) else (none))
end
def shutterlaw16_WipeGuards.f (k : Nat) (d : Int) (e : Int) (c : List (S35)) (b : Int) (g : Bool) (h : Bool) (a1 : Int) : Option (Bool) := (shutterlaw16_awake.f k).bind fun i => (if i = true then ((shutterref10_Few.f k d e c b g h).bind fun j => (if j = true then ((wipe_Do.f k d e c b g h (wrap64 (12 + (wrap64 (Int.tmod a1 3))))).bind fun a => ((shutterref10_Right.f k a.1 a.2.1 a.2.2.1 a.2.2.2.1 a.2.2.2.2.1 a.2.2.2.2.2.1).bind fun m => (if m = true then (if (a.2.2.1.length : Int) = (c.length : Int) then ((shutterref11_Begin.f k d e c b g h b).bind fun n => (shutterlaw16_WipeGuards.l0 k (wrap64 (12 + (wrap64 (Int.tmod a1 3)))) n 0 d e c b g h a.1 a.2.1 a.2.2.1 a.2.2.2.1 a.2.2.2.2.1 a.2.2.2.2.2.1 a.2.2.2.2.2.2.1 a.2.2.2.2.2.2.2)) else (none)) else (none)))) else ((shutterlaw16_awake.f k).bind fun l => (some l)))) else (none))
theorem shutterlaw16_WipeGuards.mono_l : ∀ k, (∀ i j l m n o p q s t a b c d e f g, LeO (shutterlaw16_WipeGuards.l0 k i j l m n o p q s t a b c d e f g) (shutterlaw16_WipeGuards.l0 (k + 1) i j l m n o p q s t a b c d e f g)) ∧ (∀ i j l m n o p q s t a b c d e f g w x y z A B C, LeO (shutterlaw16_WipeGuards.j1 k i j l m n o p q s t a b c d e f g w x y z A B C) (shutterlaw16_WipeGuards.j1 (k + 1) i j l m n o p q s t a b c d e f g w x y z A B C))
 | 0 => ⟨fun _ _ _ _ _ _ _ _ _ _ _ _ _ _ _ _ _ r h => by simp [shutterlaw16_WipeGuards.l0] at h, fun _ _ _ _ _ _ _ _ _ _ _ _ _ _ _ _ _ _ _ _ _ _ _ _ r h => by simp [shutterlaw16_WipeGuards.j1] at h⟩
 | k + 1 => by
  obtain ⟨u, v⟩ := shutterlaw16_WipeGuards.mono_l k
  refine ⟨?_, ?_⟩
  ·intro i j l m n o p q s t a b c d e f g
   unfold shutterlaw16_WipeGuards.l0
   repeat' first
   | (with_reducible exact u _ _ _ _ _ _ _ _ _ _ _ _ _ _ _ _ _)
   | (with_reducible exact v _ _ _ _ _ _ _ _ _ _ _ _ _ _ _ _ _ _ _ _ _ _ _ _)
   | (with_reducible exact shutterlaw16_awake.mono _)
   | (with_reducible exact shutterref10_Few.mono _ _ _ _ _ _ _)
   | (with_reducible exact shutterref10_Right.mono _ _ _ _ _ _ _)
   | (with_reducible exact shutterref11_Begin.mono _ _ _ _ _ _ _ _)
   | (with_reducible exact shutterref11_Open.mono _ _ _ _ _ _ _ _)
   | (with_reducible exact wipe_Do.mono _ _ _ _ _ _ _ _)
   | (with_reducible exact LeO.refl _)
   | (with_reducible exact LeO.none _)
   | (with_reducible refine LeO.ite ?_ ?_)
   | (with_reducible refine LeO.bind ?_ (fun _ => ?_))
   | exact u _ _ _ _ _ _ _ _ _ _ _ _ _ _ _ _ _
   | exact v _ _ _ _ _ _ _ _ _ _ _ _ _ _ _ _ _ _ _ _ _ _ _ _
   | exact shutterlaw16_awake.mono _
   | exact shutterref10_Few.mono _ _ _ _ _ _ _
   | exact shutterref10_Right.mono _ _ _ _ _ _ _
   | exact shutterref11_Begin.mono _ _ _ _ _ _ _ _
   | exact shutterref11_Open.mono _ _ _ _ _ _ _ _
   | exact wipe_Do.mono _ _ _ _ _ _ _ _
   | exact LeO.none _
   | refine LeO.ite ?_ ?_
   | refine LeO.bind ?_ (fun _ => ?_)
  ·intro i j l m n o p q s t a b c d e f g w x y z A B C
   unfold shutterlaw16_WipeGuards.j1
   repeat' first
   | (with_reducible exact u _ _ _ _ _ _ _ _ _ _ _ _ _ _ _ _ _)
   | (with_reducible exact v _ _ _ _ _ _ _ _ _ _ _ _ _ _ _ _ _ _ _ _ _ _ _ _)
   | (with_reducible exact shutterlaw16_awake.mono _)
   | (with_reducible exact shutterref10_Few.mono _ _ _ _ _ _ _)
   | (with_reducible exact shutterref10_Right.mono _ _ _ _ _ _ _)
   | (with_reducible exact shutterref11_Begin.mono _ _ _ _ _ _ _ _)
   | (with_reducible exact shutterref11_Open.mono _ _ _ _ _ _ _ _)
   | (with_reducible exact wipe_Do.mono _ _ _ _ _ _ _ _)
   | (with_reducible exact LeO.refl _)
   | (with_reducible exact LeO.none _)
   | (with_reducible refine LeO.ite ?_ ?_)
   | (with_reducible refine LeO.bind ?_ (fun _ => ?_))
   | exact u _ _ _ _ _ _ _ _ _ _ _ _ _ _ _ _ _
   | exact v _ _ _ _ _ _ _ _ _ _ _ _ _ _ _ _ _ _ _ _ _ _ _ _
   | exact shutterlaw16_awake.mono _
   | exact shutterref10_Few.mono _ _ _ _ _ _ _
   | exact shutterref10_Right.mono _ _ _ _ _ _ _
   | exact shutterref11_Begin.mono _ _ _ _ _ _ _ _
   | exact shutterref11_Open.mono _ _ _ _ _ _ _ _
   | exact wipe_Do.mono _ _ _ _ _ _ _ _
   | exact LeO.none _
   | refine LeO.ite ?_ ?_
   | refine LeO.bind ?_ (fun _ => ?_)
theorem shutterlaw16_WipeGuards.mono : ∀ a0 a1 c d a4 e g k, LeO (shutterlaw16_WipeGuards.f k a0 a1 c d a4 e g) (shutterlaw16_WipeGuards.f (k + 1) a0 a1 c d a4 e g) := by
 intro a0 a1 c d a4 e g k
 obtain ⟨a, b⟩ := shutterlaw16_WipeGuards.mono_l k
 unfold shutterlaw16_WipeGuards.f
 repeat' first
   | (with_reducible exact a _ _ _ _ _ _ _ _ _ _ _ _ _ _ _ _ _)
   | (with_reducible exact b _ _ _ _ _ _ _ _ _ _ _ _ _ _ _ _ _ _ _ _ _ _ _ _)
   | (with_reducible exact shutterlaw16_awake.mono _)
   | (with_reducible exact shutterref10_Few.mono _ _ _ _ _ _ _)
   | (with_reducible exact shutterref10_Right.mono _ _ _ _ _ _ _)
   | (with_reducible exact shutterref11_Begin.mono _ _ _ _ _ _ _ _)
   | (with_reducible exact shutterref11_Open.mono _ _ _ _ _ _ _ _)
   | (with_reducible exact wipe_Do.mono _ _ _ _ _ _ _ _)
   | (with_reducible exact LeO.refl _)
   | (with_reducible exact LeO.none _)
   | (with_reducible refine LeO.ite ?_ ?_)
   | (with_reducible refine LeO.bind ?_ (fun _ => ?_))
   | exact a _ _ _ _ _ _ _ _ _ _ _ _ _ _ _ _ _
   | exact b _ _ _ _ _ _ _ _ _ _ _ _ _ _ _ _ _ _ _ _ _ _ _ _
   | exact shutterlaw16_awake.mono _
   | exact shutterref10_Few.mono _ _ _ _ _ _ _
   | exact shutterref10_Right.mono _ _ _ _ _ _ _
   | exact shutterref11_Begin.mono _ _ _ _ _ _ _ _
   | exact shutterref11_Open.mono _ _ _ _ _ _ _ _
   | exact wipe_Do.mono _ _ _ _ _ _ _ _
   | exact LeO.none _
   | refine LeO.ite ?_ ?_
   | refine LeO.bind ?_ (fun _ => ?_)
set_option maxHeartbeats 8000000 in
set_option maxRecDepth 100000 in
theorem shutterlaw16_WipeGuards.calls (k : Nat) (x : Int) (y : Int) (au : Option Addr) (aq : Nat) (d : List (S35)) (s : Int) (z : Bool) (A : Bool) (a1 : Int) (r : Bool) (w : World) (fe : Kd.C k35 w au d.length d) (e0 : d.length ≤ aq) (hG : LaidG w) (h : shutterlaw16_WipeGuards.f k x y d s z A a1 = some r) :
  Calls Tryd.prog 3 #[.agg #[.int .i64 x, .int .i64 y, .slice au d.length aq, .int .i64 s, .bool z, .bool A], .int .u8 a1] w fun e w' => e = .returned (.bool r) ∧ Below w.heap.size w w' := by
 have HG := Z hG
 clear hG
 have jG := Tryd.underlying24
 have jI := Tryd.underlying35
 have jH := Tryd.underlying28
 have jJ := Tryd.underlying52
 have aa := Z fe
 have aj := Z e0
 clear fe e0
 have HB := Z (Below.refl w.heap.size w)
 have H : ((shutterlaw16_awake.f k).bind fun es => (if es = true then ((shutterref10_Few.f k x y d s z A).bind fun a2 => (if a2 = true then ((wipe_Do.f k x y d s z A (wrap64 (12 + (wrap64 (Int.tmod a1 3))))).bind fun o => ((shutterref10_Right.f k o.1 o.2.1 o.2.2.1 o.2.2.2.1 o.2.2.2.2.1 o.2.2.2.2.2.1).bind fun aI => (if aI = true then (if (o.2.2.1.length : Int) = (d.length : Int) then ((shutterref11_Begin.f k x y d s z A s).bind fun J => (shutterlaw16_WipeGuards.l0 k (wrap64 (12 + (wrap64 (Int.tmod a1 3)))) J 0 x y d s z A o.1 o.2.1 o.2.2.1 o.2.2.2.1 o.2.2.2.2.1 o.2.2.2.2.2.1 o.2.2.2.2.2.2.1 o.2.2.2.2.2.2.2)) else (none)) else (none)))) else ((shutterlaw16_awake.f k).bind fun aC => (some aC)))) else (none))) = some r := h
 clear h
 replace H := Option.bind_eq_some_iff.mp H
 obtain ⟨es, gF, H⟩ := H
 replace H : (if es = true then ((shutterref10_Few.f k x y d s z A).bind fun a2 => (if a2 = true then ((wipe_Do.f k x y d s z A (wrap64 (12 + (wrap64 (Int.tmod a1 3))))).bind fun o => ((shutterref10_Right.f k o.1 o.2.1 o.2.2.1 o.2.2.2.1 o.2.2.2.2.1 o.2.2.2.2.2.1).bind fun aI => (if aI = true then (if (o.2.2.1.length : Int) = (d.length : Int) then ((shutterref11_Begin.f k x y d s z A s).bind fun J => (shutterlaw16_WipeGuards.l0 k (wrap64 (12 + (wrap64 (Int.tmod a1 3)))) J 0 x y d s z A o.1 o.2.1 o.2.2.1 o.2.2.2.1 o.2.2.2.2.1 o.2.2.2.2.2.1 o.2.2.2.2.2.2.1 o.2.2.2.2.2.2.2)) else (none)) else (none)))) else ((shutterlaw16_awake.f k).bind fun aC => (some aC)))) else (none)) = some r := H
 have A3 := Z gF
 clear gF
 by_cases c4 : es = true
 ·subst c4
  have H1 : ((shutterref10_Few.f k x y d s z A).bind fun a2 => (if a2 = true then ((wipe_Do.f k x y d s z A (wrap64 (12 + (wrap64 (Int.tmod a1 3))))).bind fun o => ((shutterref10_Right.f k o.1 o.2.1 o.2.2.1 o.2.2.2.1 o.2.2.2.2.1 o.2.2.2.2.2.1).bind fun aI => (if aI = true then (if (o.2.2.1.length : Int) = (d.length : Int) then ((shutterref11_Begin.f k x y d s z A s).bind fun J => (shutterlaw16_WipeGuards.l0 k (wrap64 (12 + (wrap64 (Int.tmod a1 3)))) J 0 x y d s z A o.1 o.2.1 o.2.2.1 o.2.2.2.1 o.2.2.2.2.1 o.2.2.2.2.2.1 o.2.2.2.2.2.2.1 o.2.2.2.2.2.2.2)) else (none)) else (none)))) else ((shutterlaw16_awake.f k).bind fun aC => (some aC)))) = some r := by rw [if_pos rfl] at H; exact H
  clear H
  have H := H1
  clear H1
  replace H := Option.bind_eq_some_iff.mp H
  obtain ⟨a2, gG, H⟩ := H
  replace H : (if a2 = true then ((wipe_Do.f k x y d s z A (wrap64 (12 + (wrap64 (Int.tmod a1 3))))).bind fun o => ((shutterref10_Right.f k o.1 o.2.1 o.2.2.1 o.2.2.2.1 o.2.2.2.2.1 o.2.2.2.2.2.1).bind fun aI => (if aI = true then (if (o.2.2.1.length : Int) = (d.length : Int) then ((shutterref11_Begin.f k x y d s z A s).bind fun J => (shutterlaw16_WipeGuards.l0 k (wrap64 (12 + (wrap64 (Int.tmod a1 3)))) J 0 x y d s z A o.1 o.2.1 o.2.2.1 o.2.2.2.1 o.2.2.2.2.1 o.2.2.2.2.2.1 o.2.2.2.2.2.2.1 o.2.2.2.2.2.2.2)) else (none)) else (none)))) else ((shutterlaw16_awake.f k).bind fun aC => (some aC))) = some r := H
  have A5 := Z gG
  clear gG
  by_cases c6 : a2 = true
  ·subst c6
   have H1 : ((wipe_Do.f k x y d s z A (wrap64 (12 + (wrap64 (Int.tmod a1 3))))).bind fun o => ((shutterref10_Right.f k o.1 o.2.1 o.2.2.1 o.2.2.2.1 o.2.2.2.2.1 o.2.2.2.2.2.1).bind fun aI => (if aI = true then (if (o.2.2.1.length : Int) = (d.length : Int) then ((shutterref11_Begin.f k x y d s z A s).bind fun J => (shutterlaw16_WipeGuards.l0 k (wrap64 (12 + (wrap64 (Int.tmod a1 3)))) J 0 x y d s z A o.1 o.2.1 o.2.2.1 o.2.2.2.1 o.2.2.2.2.1 o.2.2.2.2.2.1 o.2.2.2.2.2.2.1 o.2.2.2.2.2.2.2)) else (none)) else (none)))) = some r := by rw [if_pos rfl] at H; exact H
   clear H
   have H := H1
   clear H1
   replace H := Option.bind_eq_some_iff.mp H
   obtain ⟨⟨T, U, c, W, X, Y, ar, af⟩, dT, H⟩ := H
   replace H : ((shutterref10_Right.f k T U c W X Y).bind fun aI => (if aI = true then (if (c.length : Int) = (d.length : Int) then ((shutterref11_Begin.f k x y d s z A s).bind fun J => (shutterlaw16_WipeGuards.l0 k (wrap64 (12 + (wrap64 (Int.tmod a1 3)))) J 0 x y d s z A T U c W X Y ar af)) else (none)) else (none))) = some r := H
   have A7 := Z dT
   clear dT
   replace H := Option.bind_eq_some_iff.mp H
   obtain ⟨aI, gH, H⟩ := H
   replace H : (if aI = true then (if (c.length : Int) = (d.length : Int) then ((shutterref11_Begin.f k x y d s z A s).bind fun J => (shutterlaw16_WipeGuards.l0 k (wrap64 (12 + (wrap64 (Int.tmod a1 3)))) J 0 x y d s z A T U c W X Y ar af)) else (none)) else (none)) = some r := H
   have A8 := Z gH
   clear gH
   by_cases c9 : aI = true
   ·subst c9
    have H1 : (if (c.length : Int) = (d.length : Int) then ((shutterref11_Begin.f k x y d s z A s).bind fun J => (shutterlaw16_WipeGuards.l0 k (wrap64 (12 + (wrap64 (Int.tmod a1 3)))) J 0 x y d s z A T U c W X Y ar af)) else (none)) = some r := by rw [if_pos rfl] at H; exact H
    clear H
    have H := H1
    clear H1
    by_cases c10 : (c.length : Int) = (d.length : Int)
    ·rw [if_pos c10] at H
     have eJ : ((c.length : Int) == (d.length : Int)) = true := beq_iff_eq.mpr c10
     have eK : ((c.length : Int) != (d.length : Int)) = false := bne_eq_false_iff_eq.mpr c10
     have eL : (c.length == d.length) = true := by first | simpa using c10 | (simp at c10 ⊢; omega)
     clear c10
     replace H := Option.bind_eq_some_iff.mp H
     obtain ⟨J, gq, H⟩ := H
     replace H : (shutterlaw16_WipeGuards.l0 k (wrap64 (12 + (wrap64 (Int.tmod a1 3)))) J 0 x y d s z A T U c W X Y ar af) = some r := H
     have gp := Z gq
     clear gq
     have H' := Z H
     clear H
     go_enter Tryd.func3, Tryd.ntmps3
     go_wp2_with (first | ((with_reducible refine gate_dst (N := 2) rfl ?_); (try (refine gate_guard (by rfl) ?_; dsimp only)); refine box_event ?hg (N := 2) ?hd (cs := #[.int .i64 x, .int .i64 y, .slice au d.length aq, .int .i64 s, .bool z, .bool A]) (t := 24) ?hr ?_; (case hd => rfl); (case hg => rfl); (case hr => first | (go_simp; done) | (go_simp; rfl)); intro E hg gI hbox hb; have i := Z (below_step bl_ hb); have j := Z (hbox); have m := Z ((le_new hg (below_size bl_) : w.heap.size ≤ E)); have n := Z ((le_new hg (below_size bl_) : w.heap.size ≤ E)); clear HB; have HB := i; have b := j; have aG := m; have co := n; clear i j m n; clear hb hbox hg) | (go_at_call 17; (with_reducible refine (shutterlaw16_awake.calls k  true _ ?sideG A3.out).mono ?_); (case sideG => exact laidG_below HG.out bl_ rfl); rintro e gJ ⟨rfl, hb⟩; have i := Z (kb b.out hb); have j := Z (below_step bl_ hb); clear b HB; have b := i; have HB := j; clear i j; (try clear hb); (try clear ak); (try clear hk); (try clear hi); obtain ⟨a6, a7, a8, a9, ba, bb, bH, bI, bJ, bK, bL, bM⟩ := cells6 b.out) | (go_at_call 18; (with_reducible refine (shutterref10_Few.calls k x y _ _ d s z A true _ ?side1 ?side2 A5.out).mono ?_); (case side1 => repeat (first | exact (Kd.C_below aa.out HB.out) | (with_reducible apply pC))); (case side2 => exact aj.out); rintro e gK ⟨rfl, hb⟩; have i := Z (kb b.out hb); have j := Z (below_step bl_ hb); clear b HB; have b := i; have HB := j; clear i j; (try clear hb); (try clear ak); (try clear hk); (try clear hi); obtain ⟨bc, bd, be, bf, bg, bh, bN, bO, bP, bQ, bR, bS⟩ := cells6 b.out) | (go_at_call 19; (with_reducible refine (wipe_Do.calls k x y (fun k_ => k_ < w.heap.size) _ _ d s z A (wrap64 (12 + (wrap64 (Int.tmod a1 3)))) T U c W X Y ar af _ ?side1 A7.out).mono ?_); (case side1 => exact Kd.V_mk aj.out (Kd.F_below (Kd.C_F k35_heap aa.out) bl_)); rintro e gL ⟨gw, aP, rfl, dO, dP, hb⟩; have i := Z (Kd.V_lower (Kd.V_mono (ok' := fun k_ => k_ ≠ E) dO (fun k_ hk_ => Or.elim hk_ (fun hs_ => fun e_ => Nat.not_le.2 hs_ (by rw [e_]; exact aG.out)) (fun hn_ => (fb b.out k_ hn_)))) (below_size bl_)); have j := Z (Kd.V_lower (Kd.V_mono (ok' := fun k_ => k_ ≠ E) dP (fun k_ hk_ => Or.elim hk_ (fun hs_ => fun e_ => Nat.not_le.2 hs_ (by rw [e_]; exact aG.out)) (fun hn_ => (fb b.out k_ hn_)))) (below_size bl_)); have m := Z (kb b.out hb); have n := Z (below_step bl_ hb); clear b HB; have D := i; have F := j; have b := m; have HB := n; clear i j m n; (try clear hb); (try clear ak); (try clear hk); (try clear hi); (try clear dO); (try clear dP); (try simp only [errW_none, errW_some])) | ((with_reducible refine gate_dst (N := 6) rfl ?_); (try (refine gate_guard (by rfl) ?_; dsimp only)); refine box_event ?hg (N := 6) ?hd (cs := #[.int .i64 0, .int .i64 0, .slice none 0 0, .int .i64 0, .bool false, .bool false]) (t := 24) ?hr ?_; (case hd => rfl); (case hg => rfl); (case hr => first | (go_simp; done) | (go_simp; rfl)); intro B hg aV hbox hb; have i := Z (ve D.out hg hb); have j := Z (ve F.out hg hb); have m := Z (kb b.out hb); have n := Z (below_step bl_ hb); have u := Z (hbox); have G := Z ((le_new hg (below_size bl_) : w.heap.size ≤ B)); have am := Z ((le_new hg (below_size bl_) : w.heap.size ≤ B)); have an := Z (nl b.out hg); have ao := Z (ng b.out hg); clear D F b HB; have D := i; have F := j; have b := m; have HB := n; have g := u; have eI := G; have eH := am; have S := an; have ad := ao; clear i j m n u G am an ao; clear hb hbox hg; have e1 := ad.out; have e7 := S.out; obtain ⟨bi, bj, bk, bl, bm, bn, bT, bU, bV, bW, bX, bY⟩ := cells6 g.out; obtain ⟨aJ, ag, dS⟩ := Kd.V_slice D.out; subst dS) | ((with_reducible refine gate_store (t := 24) (p := 6) rfl ?_); (try (rw [drewN_self aV]; generalize hq_ : World.drewN aV _ = aV; have i := Z (Kd.V_at hq_ D.out); have j := Z (Kd.V_at hq_ F.out); have m := Z (blk_at hq_ b.out); have n := Z (blk_at hq_ g.out); have u := Z (below_at hq_ HB.out); clear hq_ D F b g HB; have D := i; have F := j; have b := m; have g := n; have HB := u; clear i j m n u)); refine store_event (t := 24) (p := 6) (v := ?vo_w22) (w1 := ((((((aV.setCell ⟨B, 0, none⟩ (.int .i64 T)).setCell ⟨B, 1, none⟩ (.int .i64 U)).setCell ⟨B, 2, none⟩ (.slice aJ c.length ag)).setCell ⟨B, 3, none⟩ (.int .i64 W)).setCell ⟨B, 4, none⟩ (.bool X)).setCell ⟨B, 5, none⟩ (.bool Y))) ?hg ?ho ?hn ?hr ?_; (case ho => rfl); (case hg => rfl); (case hn => rfl); (case hr => first | (go_simp; done) | (go_simp; rfl)); intro aR hw; have i : Aside0 (Kd.V k35 35 aR w.heap.size (fun k_ => k_ ≠ E ∧ k_ ≠ B) (.slice aJ c.length ag) c) := ⟨(by rw [hw]; exact (by (with_reducible repeat apply pV); exact V_off D.out (fun k_ hk => hk.2) off2_ (fun _ hk => ⟨hk.1, hk.2⟩)))⟩; have j : Aside0 (Kd.V k164 164 aR w.heap.size (fun k_ => k_ ≠ E ∧ k_ ≠ B) aP af) := ⟨(by rw [hw]; exact (by (with_reducible repeat apply pV); exact V_off F.out (fun k_ hk => hk.2) off2_ (fun _ hk => ⟨hk.1, hk.2⟩)))⟩; have m : Aside0 (aR.heap[E]? = some (.cells #[.int .i64 x, .int .i64 y, .slice au d.length aq, .int .i64 s, .bool z, .bool A] 24 (0, 0))) := ⟨(by rw [hw]; exact (by (with_reducible repeat apply pK); exact blk_off b.out S.out off2_))⟩; have n : Aside0 (aR.heap[B]? = some (.cells #[.int .i64 T, .int .i64 U, .slice aJ c.length ag, .int .i64 W, .bool X, .bool Y] 24 (0, 0))) := ⟨by rw [hw]; exact (put6 g.out)⟩; have u : Aside0 (Below w.heap.size w aR) := ⟨by rw [hw]; exact bl_⟩; clear hw D F b g HB; have D := i; have F := j; have b := m; have g := n; have HB := u; clear i j m n u; obtain ⟨bo, bp, bq, br, bs, bt, bZ, b0, b1, b2, b3, b4⟩ := cells6 g.out) | (go_at_call 20; (with_reducible refine (shutterref10_Right.calls k T U _ _ c W X Y true _ ?side1 ?side2 A8.out).mono ?_); (case side1 => repeat (first | exact (Kd.V_reads' D.out).2.2 | (with_reducible apply pC))); (case side2 => exact (Kd.V_reads' D.out).2.1); rintro e gM ⟨rfl, hb⟩; have i := Z (vb D.out hb); have j := Z (vb F.out hb); have m := Z (kb b.out hb); have n := Z (kb g.out hb); have u := Z (below_step bl_ hb); clear D F b g HB; have D := i; have F := j; have b := m; have g := n; have HB := u; clear i j m n u; (try clear hb); (try clear ak); (try clear hk); (try clear hi); obtain ⟨bu, bv, bw, bx, bz, bA, b5, b6, b7, b8, b9, ca⟩ := cells6 g.out; obtain ⟨bB, bC, bD, bE, bF, bG, cb, cc, cd, ce, cf, cg⟩ := cells6 b.out) | (go_at_call 21; (with_reducible refine (shutterref11_Begin.calls k x y _ _ d s z A s J _ ?side1 ?side2 gp.out).mono ?_); (case side1 => repeat (first | exact (Kd.C_below aa.out HB.out) | (with_reducible apply pC))); (case side2 => exact aj.out); rintro e gN ⟨rfl, hb⟩; have i := Z (vb D.out hb); have j := Z (vb F.out hb); have m := Z (kb b.out hb); have n := Z (kb g.out hb); have u := Z (below_step bl_ hb); clear D F b g HB; have D := i; have F := j; have b := m; have g := n; have HB := u; clear i j m n u; (try clear hb); (try clear ak); (try clear hk); (try clear hi)))
     repeat (go_quiet (first | ((with_reducible refine gate_dst (N := 2) rfl ?_); (try (refine gate_guard (by rfl) ?_; dsimp only)); refine box_event ?hg (N := 2) ?hd (cs := #[.int .i64 x, .int .i64 y, .slice au d.length aq, .int .i64 s, .bool z, .bool A]) (t := 24) ?hr ?_; (case hd => rfl); (case hg => rfl); (case hr => first | (go_simp; done) | (go_simp; rfl)); intro E hg gI hbox hb; have i := Z (below_step bl_ hb); have j := Z (hbox); have m := Z ((le_new hg (below_size bl_) : w.heap.size ≤ E)); have n := Z ((le_new hg (below_size bl_) : w.heap.size ≤ E)); clear HB; have HB := i; have b := j; have aG := m; have co := n; clear i j m n; clear hb hbox hg) | (go_at_call 17; (with_reducible refine (shutterlaw16_awake.calls k  true _ ?sideG A3.out).mono ?_); (case sideG => exact laidG_below HG.out bl_ rfl); rintro e gJ ⟨rfl, hb⟩; have i := Z (kb b.out hb); have j := Z (below_step bl_ hb); clear b HB; have b := i; have HB := j; clear i j; (try clear hb); (try clear ak); (try clear hk); (try clear hi); obtain ⟨a6, a7, a8, a9, ba, bb, bH, bI, bJ, bK, bL, bM⟩ := cells6 b.out) | (go_at_call 18; (with_reducible refine (shutterref10_Few.calls k x y _ _ d s z A true _ ?side1 ?side2 A5.out).mono ?_); (case side1 => repeat (first | exact (Kd.C_below aa.out HB.out) | (with_reducible apply pC))); (case side2 => exact aj.out); rintro e gK ⟨rfl, hb⟩; have i := Z (kb b.out hb); have j := Z (below_step bl_ hb); clear b HB; have b := i; have HB := j; clear i j; (try clear hb); (try clear ak); (try clear hk); (try clear hi); obtain ⟨bc, bd, be, bf, bg, bh, bN, bO, bP, bQ, bR, bS⟩ := cells6 b.out) | (go_at_call 19; (with_reducible refine (wipe_Do.calls k x y (fun k_ => k_ < w.heap.size) _ _ d s z A (wrap64 (12 + (wrap64 (Int.tmod a1 3)))) T U c W X Y ar af _ ?side1 A7.out).mono ?_); (case side1 => exact Kd.V_mk aj.out (Kd.F_below (Kd.C_F k35_heap aa.out) bl_)); rintro e gL ⟨gw, aP, rfl, dO, dP, hb⟩; have i := Z (Kd.V_lower (Kd.V_mono (ok' := fun k_ => k_ ≠ E) dO (fun k_ hk_ => Or.elim hk_ (fun hs_ => fun e_ => Nat.not_le.2 hs_ (by rw [e_]; exact aG.out)) (fun hn_ => (fb b.out k_ hn_)))) (below_size bl_)); have j := Z (Kd.V_lower (Kd.V_mono (ok' := fun k_ => k_ ≠ E) dP (fun k_ hk_ => Or.elim hk_ (fun hs_ => fun e_ => Nat.not_le.2 hs_ (by rw [e_]; exact aG.out)) (fun hn_ => (fb b.out k_ hn_)))) (below_size bl_)); have m := Z (kb b.out hb); have n := Z (below_step bl_ hb); clear b HB; have D := i; have F := j; have b := m; have HB := n; clear i j m n; (try clear hb); (try clear ak); (try clear hk); (try clear hi); (try clear dO); (try clear dP); (try simp only [errW_none, errW_some])) | ((with_reducible refine gate_dst (N := 6) rfl ?_); (try (refine gate_guard (by rfl) ?_; dsimp only)); refine box_event ?hg (N := 6) ?hd (cs := #[.int .i64 0, .int .i64 0, .slice none 0 0, .int .i64 0, .bool false, .bool false]) (t := 24) ?hr ?_; (case hd => rfl); (case hg => rfl); (case hr => first | (go_simp; done) | (go_simp; rfl)); intro B hg aV hbox hb; have i := Z (ve D.out hg hb); have j := Z (ve F.out hg hb); have m := Z (kb b.out hb); have n := Z (below_step bl_ hb); have u := Z (hbox); have G := Z ((le_new hg (below_size bl_) : w.heap.size ≤ B)); have am := Z ((le_new hg (below_size bl_) : w.heap.size ≤ B)); have an := Z (nl b.out hg); have ao := Z (ng b.out hg); clear D F b HB; have D := i; have F := j; have b := m; have HB := n; have g := u; have eI := G; have eH := am; have S := an; have ad := ao; clear i j m n u G am an ao; clear hb hbox hg; have e1 := ad.out; have e7 := S.out; obtain ⟨bi, bj, bk, bl, bm, bn, bT, bU, bV, bW, bX, bY⟩ := cells6 g.out; obtain ⟨aJ, ag, dS⟩ := Kd.V_slice D.out; subst dS) | ((with_reducible refine gate_store (t := 24) (p := 6) rfl ?_); (try (rw [drewN_self aV]; generalize hq_ : World.drewN aV _ = aV; have i := Z (Kd.V_at hq_ D.out); have j := Z (Kd.V_at hq_ F.out); have m := Z (blk_at hq_ b.out); have n := Z (blk_at hq_ g.out); have u := Z (below_at hq_ HB.out); clear hq_ D F b g HB; have D := i; have F := j; have b := m; have g := n; have HB := u; clear i j m n u)); refine store_event (t := 24) (p := 6) (v := ?vo_w22) (w1 := ((((((aV.setCell ⟨B, 0, none⟩ (.int .i64 T)).setCell ⟨B, 1, none⟩ (.int .i64 U)).setCell ⟨B, 2, none⟩ (.slice aJ c.length ag)).setCell ⟨B, 3, none⟩ (.int .i64 W)).setCell ⟨B, 4, none⟩ (.bool X)).setCell ⟨B, 5, none⟩ (.bool Y))) ?hg ?ho ?hn ?hr ?_; (case ho => rfl); (case hg => rfl); (case hn => rfl); (case hr => first | (go_simp; done) | (go_simp; rfl)); intro aR hw; have i : Aside0 (Kd.V k35 35 aR w.heap.size (fun k_ => k_ ≠ E ∧ k_ ≠ B) (.slice aJ c.length ag) c) := ⟨(by rw [hw]; exact (by (with_reducible repeat apply pV); exact V_off D.out (fun k_ hk => hk.2) off2_ (fun _ hk => ⟨hk.1, hk.2⟩)))⟩; have j : Aside0 (Kd.V k164 164 aR w.heap.size (fun k_ => k_ ≠ E ∧ k_ ≠ B) aP af) := ⟨(by rw [hw]; exact (by (with_reducible repeat apply pV); exact V_off F.out (fun k_ hk => hk.2) off2_ (fun _ hk => ⟨hk.1, hk.2⟩)))⟩; have m : Aside0 (aR.heap[E]? = some (.cells #[.int .i64 x, .int .i64 y, .slice au d.length aq, .int .i64 s, .bool z, .bool A] 24 (0, 0))) := ⟨(by rw [hw]; exact (by (with_reducible repeat apply pK); exact blk_off b.out S.out off2_))⟩; have n : Aside0 (aR.heap[B]? = some (.cells #[.int .i64 T, .int .i64 U, .slice aJ c.length ag, .int .i64 W, .bool X, .bool Y] 24 (0, 0))) := ⟨by rw [hw]; exact (put6 g.out)⟩; have u : Aside0 (Below w.heap.size w aR) := ⟨by rw [hw]; exact bl_⟩; clear hw D F b g HB; have D := i; have F := j; have b := m; have g := n; have HB := u; clear i j m n u; obtain ⟨bo, bp, bq, br, bs, bt, bZ, b0, b1, b2, b3, b4⟩ := cells6 g.out) | (go_at_call 20; (with_reducible refine (shutterref10_Right.calls k T U _ _ c W X Y true _ ?side1 ?side2 A8.out).mono ?_); (case side1 => repeat (first | exact (Kd.V_reads' D.out).2.2 | (with_reducible apply pC))); (case side2 => exact (Kd.V_reads' D.out).2.1); rintro e gM ⟨rfl, hb⟩; have i := Z (vb D.out hb); have j := Z (vb F.out hb); have m := Z (kb b.out hb); have n := Z (kb g.out hb); have u := Z (below_step bl_ hb); clear D F b g HB; have D := i; have F := j; have b := m; have g := n; have HB := u; clear i j m n u; (try clear hb); (try clear ak); (try clear hk); (try clear hi); obtain ⟨bu, bv, bw, bx, bz, bA, b5, b6, b7, b8, b9, ca⟩ := cells6 g.out; obtain ⟨bB, bC, bD, bE, bF, bG, cb, cc, cd, ce, cf, cg⟩ := cells6 b.out) | (go_at_call 21; (with_reducible refine (shutterref11_Begin.calls k x y _ _ d s z A s J _ ?side1 ?side2 gp.out).mono ?_); (case side1 => repeat (first | exact (Kd.C_below aa.out HB.out) | (with_reducible apply pC))); (case side2 => exact aj.out); rintro e gN ⟨rfl, hb⟩; have i := Z (vb D.out hb); have j := Z (vb F.out hb); have m := Z (kb b.out hb); have n := Z (kb g.out hb); have u := Z (below_step bl_ hb); clear D F b g HB; have D := i; have F := j; have b := m; have g := n; have HB := u; clear i j m n u; (try clear hb); (try clear ak); (try clear hk); (try clear hi))); try go_wp2_with (first | ((with_reducible refine gate_dst (N := 2) rfl ?_); (try (refine gate_guard (by rfl) ?_; dsimp only)); refine box_event ?hg (N := 2) ?hd (cs := #[.int .i64 x, .int .i64 y, .slice au d.length aq, .int .i64 s, .bool z, .bool A]) (t := 24) ?hr ?_; (case hd => rfl); (case hg => rfl); (case hr => first | (go_simp; done) | (go_simp; rfl)); intro E hg gI hbox hb; have i := Z (below_step bl_ hb); have j := Z (hbox); have m := Z ((le_new hg (below_size bl_) : w.heap.size ≤ E)); have n := Z ((le_new hg (below_size bl_) : w.heap.size ≤ E)); clear HB; have HB := i; have b := j; have aG := m; have co := n; clear i j m n; clear hb hbox hg) | (go_at_call 17; (with_reducible refine (shutterlaw16_awake.calls k  true _ ?sideG A3.out).mono ?_); (case sideG => exact laidG_below HG.out bl_ rfl); rintro e gJ ⟨rfl, hb⟩; have i := Z (kb b.out hb); have j := Z (below_step bl_ hb); clear b HB; have b := i; have HB := j; clear i j; (try clear hb); (try clear ak); (try clear hk); (try clear hi); obtain ⟨a6, a7, a8, a9, ba, bb, bH, bI, bJ, bK, bL, bM⟩ := cells6 b.out) | (go_at_call 18; (with_reducible refine (shutterref10_Few.calls k x y _ _ d s z A true _ ?side1 ?side2 A5.out).mono ?_); (case side1 => repeat (first | exact (Kd.C_below aa.out HB.out) | (with_reducible apply pC))); (case side2 => exact aj.out); rintro e gK ⟨rfl, hb⟩; have i := Z (kb b.out hb); have j := Z (below_step bl_ hb); clear b HB; have b := i; have HB := j; clear i j; (try clear hb); (try clear ak); (try clear hk); (try clear hi); obtain ⟨bc, bd, be, bf, bg, bh, bN, bO, bP, bQ, bR, bS⟩ := cells6 b.out) | (go_at_call 19; (with_reducible refine (wipe_Do.calls k x y (fun k_ => k_ < w.heap.size) _ _ d s z A (wrap64 (12 + (wrap64 (Int.tmod a1 3)))) T U c W X Y ar af _ ?side1 A7.out).mono ?_); (case side1 => exact Kd.V_mk aj.out (Kd.F_below (Kd.C_F k35_heap aa.out) bl_)); rintro e gL ⟨gw, aP, rfl, dO, dP, hb⟩; have i := Z (Kd.V_lower (Kd.V_mono (ok' := fun k_ => k_ ≠ E) dO (fun k_ hk_ => Or.elim hk_ (fun hs_ => fun e_ => Nat.not_le.2 hs_ (by rw [e_]; exact aG.out)) (fun hn_ => (fb b.out k_ hn_)))) (below_size bl_)); have j := Z (Kd.V_lower (Kd.V_mono (ok' := fun k_ => k_ ≠ E) dP (fun k_ hk_ => Or.elim hk_ (fun hs_ => fun e_ => Nat.not_le.2 hs_ (by rw [e_]; exact aG.out)) (fun hn_ => (fb b.out k_ hn_)))) (below_size bl_)); have m := Z (kb b.out hb); have n := Z (below_step bl_ hb); clear b HB; have D := i; have F := j; have b := m; have HB := n; clear i j m n; (try clear hb); (try clear ak); (try clear hk); (try clear hi); (try clear dO); (try clear dP); (try simp only [errW_none, errW_some])) | ((with_reducible refine gate_dst (N := 6) rfl ?_); (try (refine gate_guard (by rfl) ?_; dsimp only)); refine box_event ?hg (N := 6) ?hd (cs := #[.int .i64 0, .int .i64 0, .slice none 0 0, .int .i64 0, .bool false, .bool false]) (t := 24) ?hr ?_; (case hd => rfl); (case hg => rfl); (case hr => first | (go_simp; done) | (go_simp; rfl)); intro B hg aV hbox hb; have i := Z (ve D.out hg hb); have j := Z (ve F.out hg hb); have m := Z (kb b.out hb); have n := Z (below_step bl_ hb); have u := Z (hbox); have G := Z ((le_new hg (below_size bl_) : w.heap.size ≤ B)); have am := Z ((le_new hg (below_size bl_) : w.heap.size ≤ B)); have an := Z (nl b.out hg); have ao := Z (ng b.out hg); clear D F b HB; have D := i; have F := j; have b := m; have HB := n; have g := u; have eI := G; have eH := am; have S := an; have ad := ao; clear i j m n u G am an ao; clear hb hbox hg; have e1 := ad.out; have e7 := S.out; obtain ⟨bi, bj, bk, bl, bm, bn, bT, bU, bV, bW, bX, bY⟩ := cells6 g.out; obtain ⟨aJ, ag, dS⟩ := Kd.V_slice D.out; subst dS) | ((with_reducible refine gate_store (t := 24) (p := 6) rfl ?_); (try (rw [drewN_self aV]; generalize hq_ : World.drewN aV _ = aV; have i := Z (Kd.V_at hq_ D.out); have j := Z (Kd.V_at hq_ F.out); have m := Z (blk_at hq_ b.out); have n := Z (blk_at hq_ g.out); have u := Z (below_at hq_ HB.out); clear hq_ D F b g HB; have D := i; have F := j; have b := m; have g := n; have HB := u; clear i j m n u)); refine store_event (t := 24) (p := 6) (v := ?vo_w22) (w1 := ((((((aV.setCell ⟨B, 0, none⟩ (.int .i64 T)).setCell ⟨B, 1, none⟩ (.int .i64 U)).setCell ⟨B, 2, none⟩ (.slice aJ c.length ag)).setCell ⟨B, 3, none⟩ (.int .i64 W)).setCell ⟨B, 4, none⟩ (.bool X)).setCell ⟨B, 5, none⟩ (.bool Y))) ?hg ?ho ?hn ?hr ?_; (case ho => rfl); (case hg => rfl); (case hn => rfl); (case hr => first | (go_simp; done) | (go_simp; rfl)); intro aR hw; have i : Aside0 (Kd.V k35 35 aR w.heap.size (fun k_ => k_ ≠ E ∧ k_ ≠ B) (.slice aJ c.length ag) c) := ⟨(by rw [hw]; exact (by (with_reducible repeat apply pV); exact V_off D.out (fun k_ hk => hk.2) off2_ (fun _ hk => ⟨hk.1, hk.2⟩)))⟩; have j : Aside0 (Kd.V k164 164 aR w.heap.size (fun k_ => k_ ≠ E ∧ k_ ≠ B) aP af) := ⟨(by rw [hw]; exact (by (with_reducible repeat apply pV); exact V_off F.out (fun k_ hk => hk.2) off2_ (fun _ hk => ⟨hk.1, hk.2⟩)))⟩; have m : Aside0 (aR.heap[E]? = some (.cells #[.int .i64 x, .int .i64 y, .slice au d.length aq, .int .i64 s, .bool z, .bool A] 24 (0, 0))) := ⟨(by rw [hw]; exact (by (with_reducible repeat apply pK); exact blk_off b.out S.out off2_))⟩; have n : Aside0 (aR.heap[B]? = some (.cells #[.int .i64 T, .int .i64 U, .slice aJ c.length ag, .int .i64 W, .bool X, .bool Y] 24 (0, 0))) := ⟨by rw [hw]; exact (put6 g.out)⟩; have u : Aside0 (Below w.heap.size w aR) := ⟨by rw [hw]; exact bl_⟩; clear hw D F b g HB; have D := i; have F := j; have b := m; have g := n; have HB := u; clear i j m n u; obtain ⟨bo, bp, bq, br, bs, bt, bZ, b0, b1, b2, b3, b4⟩ := cells6 g.out) | (go_at_call 20; (with_reducible refine (shutterref10_Right.calls k T U _ _ c W X Y true _ ?side1 ?side2 A8.out).mono ?_); (case side1 => repeat (first | exact (Kd.V_reads' D.out).2.2 | (with_reducible apply pC))); (case side2 => exact (Kd.V_reads' D.out).2.1); rintro e gM ⟨rfl, hb⟩; have i := Z (vb D.out hb); have j := Z (vb F.out hb); have m := Z (kb b.out hb); have n := Z (kb g.out hb); have u := Z (below_step bl_ hb); clear D F b g HB; have D := i; have F := j; have b := m; have g := n; have HB := u; clear i j m n u; (try clear hb); (try clear ak); (try clear hk); (try clear hi); obtain ⟨bu, bv, bw, bx, bz, bA, b5, b6, b7, b8, b9, ca⟩ := cells6 g.out; obtain ⟨bB, bC, bD, bE, bF, bG, cb, cc, cd, ce, cf, cg⟩ := cells6 b.out) | (go_at_call 21; (with_reducible refine (shutterref11_Begin.calls k x y _ _ d s z A s J _ ?side1 ?side2 gp.out).mono ?_); (case side1 => repeat (first | exact (Kd.C_below aa.out HB.out) | (with_reducible apply pC))); (case side2 => exact aj.out); rintro e gN ⟨rfl, hb⟩; have i := Z (vb D.out hb); have j := Z (vb F.out hb); have m := Z (kb b.out hb); have n := Z (kb g.out hb); have u := Z (below_step bl_ hb); clear D F b g HB; have D := i; have F := j; have b := m; have g := n; have HB := u; clear i j m n u; (try clear hb); (try clear ak); (try clear hk); (try clear hi))))
     go_loopg [9] k (fun kq v9 w' => ∃ (a : Int), v9 = .int .i64 a ∧ Aside0 (shutterlaw16_WipeGuards.l0 kq (wrap64 (12 + (wrap64 (Int.tmod a1 3)))) J a x y d s z A T U c W X Y ar af = some r) ∧ Aside0 (kq ≤ k) ∧ Aside0 (Kd.V k35 35 w' w.heap.size (fun k_ => k_ ≠ E ∧ k_ ≠ B) (.slice aJ c.length ag) c) ∧ Aside0 (Kd.V k164 164 w' w.heap.size (fun k_ => k_ ≠ E ∧ k_ ≠ B) aP af) ∧ Aside0 (w'.heap[E]? = some (.cells #[.int .i64 x, .int .i64 y, (.slice au d.length aq), .int .i64 s, .bool z, .bool A] 24 (0, 0))) ∧ Aside0 (w'.heap[B]? = some (.cells #[.int .i64 T, .int .i64 U, (.slice aJ c.length ag), .int .i64 W, .bool X, .bool Y] 24 (0, 0))) ∧ Aside0 (Below w.heap.size w w'))
     case atStart => exact ⟨(0), (by first | rfl | (simp; done) | (simp [*]; done)), H', ⟨Nat.le_refl _⟩, ⟨by (with_reducible repeat apply pV); exact D.out⟩, ⟨by (with_reducible repeat apply pV); exact F.out⟩, ⟨by (with_reducible repeat apply pK); exact b.out⟩, ⟨by (with_reducible repeat apply pK); exact g.out⟩, ⟨bl_⟩⟩
     case round =>
      clear H'
      try clear c1
      try clear p2
      try clear c3
      try clear c4
      try clear c6
      try clear p6
      try clear c9
      try clear c10
      try clear eJ
      try clear eK
      try clear eL
      try clear iX
      try clear a6
      try clear a7
      try clear a8
      try clear a9
      try clear ba
      try clear bb
      try clear bc
      try clear bd
      try clear be
      try clear bf
      try clear bg
      try clear bh
      try clear bi
      try clear bj
      try clear bk
      try clear bl
      try clear bm
      try clear bn
      try clear bo
      try clear bp
      try clear bq
      try clear br
      try clear bs
      try clear bt
      try clear bu
      try clear bv
      try clear bw
      try clear bx
      try clear bz
      try clear bA
      try clear bB
      try clear bC
      try clear bD
      try clear bE
      try clear bF
      try clear bG
      try clear bH
      try clear bI
      try clear bJ
      try clear bK
      try clear bL
      try clear bM
      try clear bN
      try clear bO
      try clear bP
      try clear bQ
      try clear bR
      try clear bS
      try clear bT
      try clear bU
      try clear bV
      try clear bW
      try clear bX
      try clear bY
      try clear bZ
      try clear b0
      try clear b1
      try clear b2
      try clear b3
      try clear b4
      try clear b5
      try clear b6
      try clear b7
      try clear b8
      try clear b9
      try clear ca
      try clear cb
      try clear cc
      try clear cd
      try clear ce
      try clear cf
      try clear cg
      obtain ⟨a, rfl, HA, dM, HO_826002, HO_900007001, b, g, HB⟩ := hrel
      cases gk with
      | zero => exact absurd HA.out (by simp [shutterlaw16_WipeGuards.l0])
      | succ k1 =>
       have H := HA.out
       clear HA
       simp only [shutterlaw16_WipeGuards.l0] at H
       by_cases dQ : a < (d.length : Int)
       ·rw [if_pos dQ] at H
        have eM : decide (a < (d.length : Int)) = true := decide_eq_true dQ
        clear dQ
        by_cases et : 0 ≤ a
        ·rw [if_pos et] at H
         have gz : decide (0 ≤ a) = true := decide_eq_true et
         clear et
         by_cases eu : a < (c.length : Int)
         ·rw [if_pos eu] at H
          have gA : decide (a < (c.length : Int)) = true := decide_eq_true eu
          clear eu
          by_cases aY : (((rd_T35 c a).f0) == ((rd_T35 d a).f0) && ((((rd_T35 c a).f1.f0) == ((rd_T35 d a).f1.f0) && (((rd_T35 c a).f1.f1) == ((rd_T35 d a).f1.f1) && (((rd_T35 c a).f1.f2) == ((rd_T35 d a).f1.f2) && (((rd_T35 c a).f1.f3) == ((rd_T35 d a).f1.f3))))) && (((rd_T35 c a).f2) == ((rd_T35 d a).f2)))) = true
          ·rw [if_pos aY] at H
           have eN : (((rd_T35 c a).f0) == ((rd_T35 d a).f0) && ((((rd_T35 c a).f1.f0) == ((rd_T35 d a).f1.f0) && (((rd_T35 c a).f1.f1) == ((rd_T35 d a).f1.f1) && (((rd_T35 c a).f1.f2) == ((rd_T35 d a).f1.f2) && (((rd_T35 c a).f1.f3) == ((rd_T35 d a).f1.f3))))) && (((rd_T35 c a).f2) == ((rd_T35 d a).f2)))) = true := aY
           (try (have eO : decide (((rd_T35 c a).f0) = ((rd_T35 d a).f0) && ((((rd_T35 c a).f1.f0) == ((rd_T35 d a).f1.f0) && (((rd_T35 c a).f1.f1) == ((rd_T35 d a).f1.f1) && (((rd_T35 c a).f1.f2) == ((rd_T35 d a).f1.f2) && (((rd_T35 c a).f1.f3) == ((rd_T35 d a).f1.f3))))) && (((rd_T35 c a).f2) == ((rd_T35 d a).f2)))) = true := by simpa using aY))
           (try (have eP : (((rd_T35 c a).f0) == ((rd_T35 d a).f0) && ((((rd_T35 c a).f1.f0) == ((rd_T35 d a).f1.f0) && (((rd_T35 c a).f1.f1) == ((rd_T35 d a).f1.f1) && (((rd_T35 c a).f1.f2) == ((rd_T35 d a).f1.f2) && (((rd_T35 c a).f1.f3) == ((rd_T35 d a).f1.f3))))) && (((rd_T35 c a).f2) == ((rd_T35 d a).f2)))) = true := by simpa using aY))
           clear aY
           have H' := Z H
           clear H
           have jg := S.out
           have jt := ad.out
           obtain ⟨fg, fh, fi, fj, fk, fl, fK, fL, fM, fN, fO, fP⟩ := cells6 b.out
           obtain ⟨fm, fn, fo, fp, fq, fr, fQ, fR, fS, fT, fU, fV⟩ := cells6 g.out
           have aZ : 0 ≤ (a : Int) := od_
           have a0 : a < (c.length : Int) := od_
           obtain ⟨ap, ey, ej, ek, el, em, en, eo⟩ := at_T35 (Kd.V_reads' HO_826002.out).2.2 a aZ a0
           cases ey
           replace aZ := eq_true aZ
           replace a0 := eq_true a0
           go_wp2_with (first | ((with_reducible refine gate_dst (N := 10) rfl ?_); (try (refine gate_guard (by rfl) ?_; dsimp only)); refine box_event ?hg (N := 10) ?hd (cs := #[.bool false, .bool false, .bool false, .int .i64 0, .bool false, .int .u8 0]) (t := 35) ?hr ?_; (case hd => rfl); (case hg => rfl); (case hr => first | (go_simp; done) | (go_simp; rfl)); intro l hg aW hbox hb; have i := Z (ve HO_826002.out hg hb); have j := Z (ve HO_900007001.out hg hb); have m := Z (kb b.out hb); have n := Z (kb g.out hb); have u := Z (below_step bl_ hb); have G := Z (hbox); have am := Z ((le_new hg (below_size bl_) : w.heap.size ≤ l)); have an := Z ((le_new hg (below_size bl_) : w.heap.size ≤ l)); have ao := Z (nl b.out hg); have aQ := Z (ng b.out hg); have av := Z (nl g.out hg); have aw := Z (ng g.out hg); clear HO_826002 HO_900007001 b g HB; have HO_826002 := i; have HO_900007001 := j; have b := m; have g := n; have HB := u; have q := G; have a4 := am; have cp := an; have K := ao; have ae := aQ; have I := av; have ab := aw; clear i j m n u G am an ao aQ av aw; clear hb hbox hg; have e2 := ae.out; have e8 := K.out; have e3 := ab.out; have e9 := I.out; obtain ⟨cr, ct, cu, cv, cw, cx, c8, da, db, dc, dd, de⟩ := cells6 q.out) | ((with_reducible refine gate_store (t := 35) (p := 10) rfl ?_); (try (rw [drewN_self aW]; generalize hq_ : World.drewN aW _ = aW; have i := Z (Kd.V_at hq_ HO_826002.out); have j := Z (Kd.V_at hq_ HO_900007001.out); have m := Z (blk_at hq_ b.out); have n := Z (blk_at hq_ g.out); have u := Z (blk_at hq_ q.out); have G := Z (below_at hq_ HB.out); clear hq_ HO_826002 HO_900007001 b g q HB; have HO_826002 := i; have HO_900007001 := j; have b := m; have g := n; have q := u; have HB := G; clear i j m n u G)); refine store_event (t := 35) (p := 10) (v := ?vo_w39) (w1 := ((((((aW.setCell ⟨l, 0, none⟩ (.bool ((rd_T35 c a).f0))).setCell ⟨l, 1, none⟩ (.bool ((rd_T35 c a).f1.f0))).setCell ⟨l, 2, none⟩ (.bool ((rd_T35 c a).f1.f1))).setCell ⟨l, 3, none⟩ (.int .i64 ((rd_T35 c a).f1.f2))).setCell ⟨l, 4, none⟩ (.bool ((rd_T35 c a).f1.f3))).setCell ⟨l, 5, none⟩ (.int .u8 ((rd_T35 c a).f2)))) ?hg ?ho ?hn ?hr ?_; (case ho => rfl); (case hg => rfl); (case hn => rfl); (case hr => first | (go_simp; done) | (go_simp; rfl)); intro aE hw; have i : Aside0 (Kd.V k35 35 aE w.heap.size (fun k_ => k_ ≠ E ∧ k_ ≠ B ∧ k_ ≠ l) (.slice (some ap) c.length ag) c) := ⟨(by rw [hw]; exact (by (with_reducible repeat apply pV); exact V_off HO_826002.out (fun k_ hk => hk.2) off2_ (fun _ hk => ⟨hk.1.1, ⟨hk.1.2, hk.2⟩⟩)))⟩; have j : Aside0 (Kd.V k164 164 aE w.heap.size (fun k_ => k_ ≠ E ∧ k_ ≠ B ∧ k_ ≠ l) aP af) := ⟨(by rw [hw]; exact (by (with_reducible repeat apply pV); exact V_off HO_900007001.out (fun k_ hk => hk.2) off2_ (fun _ hk => ⟨hk.1.1, ⟨hk.1.2, hk.2⟩⟩)))⟩; have m : Aside0 (aE.heap[E]? = some (.cells #[.int .i64 x, .int .i64 y, .slice au d.length aq, .int .i64 s, .bool z, .bool A] 24 (0, 0))) := ⟨(by rw [hw]; exact (by (with_reducible repeat apply pK); exact blk_off b.out K.out off2_))⟩; have n : Aside0 (aE.heap[B]? = some (.cells #[.int .i64 T, .int .i64 U, .slice (some ap) c.length ag, .int .i64 W, .bool X, .bool Y] 24 (0, 0))) := ⟨(by rw [hw]; exact (by (with_reducible repeat apply pK); exact blk_off g.out I.out off2_))⟩; have u : Aside0 (aE.heap[l]? = some (.cells #[.bool ((rd_T35 c a).f0), .bool ((rd_T35 c a).f1.f0), .bool ((rd_T35 c a).f1.f1), .int .i64 ((rd_T35 c a).f1.f2), .bool ((rd_T35 c a).f1.f3), .int .u8 ((rd_T35 c a).f2)] 35 (0, 0))) := ⟨by rw [hw]; exact (put6 q.out)⟩; have G : Aside0 (Below w.heap.size w aE) := ⟨by rw [hw]; exact bl_⟩; clear hw HO_826002 HO_900007001 b g q HB; have HO_826002 := i; have HO_900007001 := j; have b := m; have g := n; have q := u; have HB := G; clear i j m n u G; obtain ⟨cy, cz, cA, cB, cC, cD, df, dg, dh, di, dj, dk⟩ := cells6 q.out; obtain ⟨cE, cF, cG, cH, cI, cJ, dl, dm, dn, dp, dq, dr⟩ := cells6 b.out; have ah : 0 ≤ (a : Int) := od_; have ai : a < (d.length : Int) := od_; obtain ⟨aH, aU, L, M, O, P, Q, R⟩ := at_T35 aa.out a ah ai; cases aU; replace L := (HB.out.cell (bk_ w _ L)).trans L; replace M := (HB.out.cell (bk_ w _ M)).trans M; replace O := (HB.out.cell (bk_ w _ O)).trans O; replace P := (HB.out.cell (bk_ w _ P)).trans P; replace Q := (HB.out.cell (bk_ w _ Q)).trans Q; replace R := (HB.out.cell (bk_ w _ R)).trans R; replace ah := eq_true ah; replace ai := eq_true ai))
           repeat (go_quiet (first | ((with_reducible refine gate_dst (N := 10) rfl ?_); (try (refine gate_guard (by rfl) ?_; dsimp only)); refine box_event ?hg (N := 10) ?hd (cs := #[.bool false, .bool false, .bool false, .int .i64 0, .bool false, .int .u8 0]) (t := 35) ?hr ?_; (case hd => rfl); (case hg => rfl); (case hr => first | (go_simp; done) | (go_simp; rfl)); intro l hg aW hbox hb; have i := Z (ve HO_826002.out hg hb); have j := Z (ve HO_900007001.out hg hb); have m := Z (kb b.out hb); have n := Z (kb g.out hb); have u := Z (below_step bl_ hb); have G := Z (hbox); have am := Z ((le_new hg (below_size bl_) : w.heap.size ≤ l)); have an := Z ((le_new hg (below_size bl_) : w.heap.size ≤ l)); have ao := Z (nl b.out hg); have aQ := Z (ng b.out hg); have av := Z (nl g.out hg); have aw := Z (ng g.out hg); clear HO_826002 HO_900007001 b g HB; have HO_826002 := i; have HO_900007001 := j; have b := m; have g := n; have HB := u; have q := G; have a4 := am; have cp := an; have K := ao; have ae := aQ; have I := av; have ab := aw; clear i j m n u G am an ao aQ av aw; clear hb hbox hg; have e2 := ae.out; have e8 := K.out; have e3 := ab.out; have e9 := I.out; obtain ⟨cr, ct, cu, cv, cw, cx, c8, da, db, dc, dd, de⟩ := cells6 q.out) | ((with_reducible refine gate_store (t := 35) (p := 10) rfl ?_); (try (rw [drewN_self aW]; generalize hq_ : World.drewN aW _ = aW; have i := Z (Kd.V_at hq_ HO_826002.out); have j := Z (Kd.V_at hq_ HO_900007001.out); have m := Z (blk_at hq_ b.out); have n := Z (blk_at hq_ g.out); have u := Z (blk_at hq_ q.out); have G := Z (below_at hq_ HB.out); clear hq_ HO_826002 HO_900007001 b g q HB; have HO_826002 := i; have HO_900007001 := j; have b := m; have g := n; have q := u; have HB := G; clear i j m n u G)); refine store_event (t := 35) (p := 10) (v := ?vo_w39) (w1 := ((((((aW.setCell ⟨l, 0, none⟩ (.bool ((rd_T35 c a).f0))).setCell ⟨l, 1, none⟩ (.bool ((rd_T35 c a).f1.f0))).setCell ⟨l, 2, none⟩ (.bool ((rd_T35 c a).f1.f1))).setCell ⟨l, 3, none⟩ (.int .i64 ((rd_T35 c a).f1.f2))).setCell ⟨l, 4, none⟩ (.bool ((rd_T35 c a).f1.f3))).setCell ⟨l, 5, none⟩ (.int .u8 ((rd_T35 c a).f2)))) ?hg ?ho ?hn ?hr ?_; (case ho => rfl); (case hg => rfl); (case hn => rfl); (case hr => first | (go_simp; done) | (go_simp; rfl)); intro aE hw; have i : Aside0 (Kd.V k35 35 aE w.heap.size (fun k_ => k_ ≠ E ∧ k_ ≠ B ∧ k_ ≠ l) (.slice (some ap) c.length ag) c) := ⟨(by rw [hw]; exact (by (with_reducible repeat apply pV); exact V_off HO_826002.out (fun k_ hk => hk.2) off2_ (fun _ hk => ⟨hk.1.1, ⟨hk.1.2, hk.2⟩⟩)))⟩; have j : Aside0 (Kd.V k164 164 aE w.heap.size (fun k_ => k_ ≠ E ∧ k_ ≠ B ∧ k_ ≠ l) aP af) := ⟨(by rw [hw]; exact (by (with_reducible repeat apply pV); exact V_off HO_900007001.out (fun k_ hk => hk.2) off2_ (fun _ hk => ⟨hk.1.1, ⟨hk.1.2, hk.2⟩⟩)))⟩; have m : Aside0 (aE.heap[E]? = some (.cells #[.int .i64 x, .int .i64 y, .slice au d.length aq, .int .i64 s, .bool z, .bool A] 24 (0, 0))) := ⟨(by rw [hw]; exact (by (with_reducible repeat apply pK); exact blk_off b.out K.out off2_))⟩; have n : Aside0 (aE.heap[B]? = some (.cells #[.int .i64 T, .int .i64 U, .slice (some ap) c.length ag, .int .i64 W, .bool X, .bool Y] 24 (0, 0))) := ⟨(by rw [hw]; exact (by (with_reducible repeat apply pK); exact blk_off g.out I.out off2_))⟩; have u : Aside0 (aE.heap[l]? = some (.cells #[.bool ((rd_T35 c a).f0), .bool ((rd_T35 c a).f1.f0), .bool ((rd_T35 c a).f1.f1), .int .i64 ((rd_T35 c a).f1.f2), .bool ((rd_T35 c a).f1.f3), .int .u8 ((rd_T35 c a).f2)] 35 (0, 0))) := ⟨by rw [hw]; exact (put6 q.out)⟩; have G : Aside0 (Below w.heap.size w aE) := ⟨by rw [hw]; exact bl_⟩; clear hw HO_826002 HO_900007001 b g q HB; have HO_826002 := i; have HO_900007001 := j; have b := m; have g := n; have q := u; have HB := G; clear i j m n u G; obtain ⟨cy, cz, cA, cB, cC, cD, df, dg, dh, di, dj, dk⟩ := cells6 q.out; obtain ⟨cE, cF, cG, cH, cI, cJ, dl, dm, dn, dp, dq, dr⟩ := cells6 b.out; have ah : 0 ≤ (a : Int) := od_; have ai : a < (d.length : Int) := od_; obtain ⟨aH, aU, L, M, O, P, Q, R⟩ := at_T35 aa.out a ah ai; cases aU; replace L := (HB.out.cell (bk_ w _ L)).trans L; replace M := (HB.out.cell (bk_ w _ M)).trans M; replace O := (HB.out.cell (bk_ w _ O)).trans O; replace P := (HB.out.cell (bk_ w _ P)).trans P; replace Q := (HB.out.cell (bk_ w _ Q)).trans Q; replace R := (HB.out.cell (bk_ w _ R)).trans R; replace ah := eq_true ah; replace ai := eq_true ai)); try go_wp2_with (first | ((with_reducible refine gate_dst (N := 10) rfl ?_); (try (refine gate_guard (by rfl) ?_; dsimp only)); refine box_event ?hg (N := 10) ?hd (cs := #[.bool false, .bool false, .bool false, .int .i64 0, .bool false, .int .u8 0]) (t := 35) ?hr ?_; (case hd => rfl); (case hg => rfl); (case hr => first | (go_simp; done) | (go_simp; rfl)); intro l hg aW hbox hb; have i := Z (ve HO_826002.out hg hb); have j := Z (ve HO_900007001.out hg hb); have m := Z (kb b.out hb); have n := Z (kb g.out hb); have u := Z (below_step bl_ hb); have G := Z (hbox); have am := Z ((le_new hg (below_size bl_) : w.heap.size ≤ l)); have an := Z ((le_new hg (below_size bl_) : w.heap.size ≤ l)); have ao := Z (nl b.out hg); have aQ := Z (ng b.out hg); have av := Z (nl g.out hg); have aw := Z (ng g.out hg); clear HO_826002 HO_900007001 b g HB; have HO_826002 := i; have HO_900007001 := j; have b := m; have g := n; have HB := u; have q := G; have a4 := am; have cp := an; have K := ao; have ae := aQ; have I := av; have ab := aw; clear i j m n u G am an ao aQ av aw; clear hb hbox hg; have e2 := ae.out; have e8 := K.out; have e3 := ab.out; have e9 := I.out; obtain ⟨cr, ct, cu, cv, cw, cx, c8, da, db, dc, dd, de⟩ := cells6 q.out) | ((with_reducible refine gate_store (t := 35) (p := 10) rfl ?_); (try (rw [drewN_self aW]; generalize hq_ : World.drewN aW _ = aW; have i := Z (Kd.V_at hq_ HO_826002.out); have j := Z (Kd.V_at hq_ HO_900007001.out); have m := Z (blk_at hq_ b.out); have n := Z (blk_at hq_ g.out); have u := Z (blk_at hq_ q.out); have G := Z (below_at hq_ HB.out); clear hq_ HO_826002 HO_900007001 b g q HB; have HO_826002 := i; have HO_900007001 := j; have b := m; have g := n; have q := u; have HB := G; clear i j m n u G)); refine store_event (t := 35) (p := 10) (v := ?vo_w39) (w1 := ((((((aW.setCell ⟨l, 0, none⟩ (.bool ((rd_T35 c a).f0))).setCell ⟨l, 1, none⟩ (.bool ((rd_T35 c a).f1.f0))).setCell ⟨l, 2, none⟩ (.bool ((rd_T35 c a).f1.f1))).setCell ⟨l, 3, none⟩ (.int .i64 ((rd_T35 c a).f1.f2))).setCell ⟨l, 4, none⟩ (.bool ((rd_T35 c a).f1.f3))).setCell ⟨l, 5, none⟩ (.int .u8 ((rd_T35 c a).f2)))) ?hg ?ho ?hn ?hr ?_; (case ho => rfl); (case hg => rfl); (case hn => rfl); (case hr => first | (go_simp; done) | (go_simp; rfl)); intro aE hw; have i : Aside0 (Kd.V k35 35 aE w.heap.size (fun k_ => k_ ≠ E ∧ k_ ≠ B ∧ k_ ≠ l) (.slice (some ap) c.length ag) c) := ⟨(by rw [hw]; exact (by (with_reducible repeat apply pV); exact V_off HO_826002.out (fun k_ hk => hk.2) off2_ (fun _ hk => ⟨hk.1.1, ⟨hk.1.2, hk.2⟩⟩)))⟩; have j : Aside0 (Kd.V k164 164 aE w.heap.size (fun k_ => k_ ≠ E ∧ k_ ≠ B ∧ k_ ≠ l) aP af) := ⟨(by rw [hw]; exact (by (with_reducible repeat apply pV); exact V_off HO_900007001.out (fun k_ hk => hk.2) off2_ (fun _ hk => ⟨hk.1.1, ⟨hk.1.2, hk.2⟩⟩)))⟩; have m : Aside0 (aE.heap[E]? = some (.cells #[.int .i64 x, .int .i64 y, .slice au d.length aq, .int .i64 s, .bool z, .bool A] 24 (0, 0))) := ⟨(by rw [hw]; exact (by (with_reducible repeat apply pK); exact blk_off b.out K.out off2_))⟩; have n : Aside0 (aE.heap[B]? = some (.cells #[.int .i64 T, .int .i64 U, .slice (some ap) c.length ag, .int .i64 W, .bool X, .bool Y] 24 (0, 0))) := ⟨(by rw [hw]; exact (by (with_reducible repeat apply pK); exact blk_off g.out I.out off2_))⟩; have u : Aside0 (aE.heap[l]? = some (.cells #[.bool ((rd_T35 c a).f0), .bool ((rd_T35 c a).f1.f0), .bool ((rd_T35 c a).f1.f1), .int .i64 ((rd_T35 c a).f1.f2), .bool ((rd_T35 c a).f1.f3), .int .u8 ((rd_T35 c a).f2)] 35 (0, 0))) := ⟨by rw [hw]; exact (put6 q.out)⟩; have G : Aside0 (Below w.heap.size w aE) := ⟨by rw [hw]; exact bl_⟩; clear hw HO_826002 HO_900007001 b g q HB; have HO_826002 := i; have HO_900007001 := j; have b := m; have g := n; have q := u; have HB := G; clear i j m n u G; obtain ⟨cy, cz, cA, cB, cC, cD, df, dg, dh, di, dj, dk⟩ := cells6 q.out; obtain ⟨cE, cF, cG, cH, cI, cJ, dl, dm, dn, dp, dq, dr⟩ := cells6 b.out; have ah : 0 ≤ (a : Int) := od_; have ai : a < (d.length : Int) := od_; obtain ⟨aH, aU, L, M, O, P, Q, R⟩ := at_T35 aa.out a ah ai; cases aU; replace L := (HB.out.cell (bk_ w _ L)).trans L; replace M := (HB.out.cell (bk_ w _ M)).trans M; replace O := (HB.out.cell (bk_ w _ O)).trans O; replace P := (HB.out.cell (bk_ w _ P)).trans P; replace Q := (HB.out.cell (bk_ w _ Q)).trans Q; replace R := (HB.out.cell (bk_ w _ R)).trans R; replace ah := eq_true ah; replace ai := eq_true ai)))
           go_roundg k1
           case measure => have := dM.out; omega
           case rel => exact ⟨(wrap64 (a + 1)), (by first | rfl | (simp; done) | (simp [*]; done)), H', ⟨by have := dM.out; omega⟩, ⟨by (with_reducible repeat apply pV); exact Kd.V_mono HO_826002.out (fun _ hk => ⟨hk.1, hk.2.1⟩)⟩, ⟨by (with_reducible repeat apply pV); exact Kd.V_mono HO_900007001.out (fun _ hk => ⟨hk.1, hk.2.1⟩)⟩, ⟨by (with_reducible repeat apply pK); exact b.out⟩, ⟨by (with_reducible repeat apply pK); exact g.out⟩, ⟨bl_⟩⟩
          ·rw [if_neg aY] at H
           have eN : (((rd_T35 c a).f0) == ((rd_T35 d a).f0) && ((((rd_T35 c a).f1.f0) == ((rd_T35 d a).f1.f0) && (((rd_T35 c a).f1.f1) == ((rd_T35 d a).f1.f1) && (((rd_T35 c a).f1.f2) == ((rd_T35 d a).f1.f2) && (((rd_T35 c a).f1.f3) == ((rd_T35 d a).f1.f3))))) && (((rd_T35 c a).f2) == ((rd_T35 d a).f2)))) = false := by simpa using aY
           (try (have eO : decide (((rd_T35 c a).f0) = ((rd_T35 d a).f0) && ((((rd_T35 c a).f1.f0) == ((rd_T35 d a).f1.f0) && (((rd_T35 c a).f1.f1) == ((rd_T35 d a).f1.f1) && (((rd_T35 c a).f1.f2) == ((rd_T35 d a).f1.f2) && (((rd_T35 c a).f1.f3) == ((rd_T35 d a).f1.f3))))) && (((rd_T35 c a).f2) == ((rd_T35 d a).f2)))) = false := by simpa using aY))
           (try (have eP : (((rd_T35 c a).f0) == ((rd_T35 d a).f0) && ((((rd_T35 c a).f1.f0) == ((rd_T35 d a).f1.f0) && (((rd_T35 c a).f1.f1) == ((rd_T35 d a).f1.f1) && (((rd_T35 c a).f1.f2) == ((rd_T35 d a).f1.f2) && (((rd_T35 c a).f1.f3) == ((rd_T35 d a).f1.f3))))) && (((rd_T35 c a).f2) == ((rd_T35 d a).f2)))) = false := by simpa using aY))
           (try (have ja : ¬ (((rd_T35 c a).f0) = ((rd_T35 d a).f0) && ((((rd_T35 c a).f1.f0) == ((rd_T35 d a).f1.f0) && (((rd_T35 c a).f1.f1) == ((rd_T35 d a).f1.f1) && (((rd_T35 c a).f1.f2) == ((rd_T35 d a).f1.f2) && (((rd_T35 c a).f1.f3) == ((rd_T35 d a).f1.f3))))) && (((rd_T35 c a).f2) == ((rd_T35 d a).f2)))) := by simpa using aY))
           clear aY
           have ew := Z H
           clear H
           have jh := S.out
           have ju := ad.out
           obtain ⟨fs, ft, fu, fv, fw, fx, fW, fX, fY, fZ, ga, gb⟩ := cells6 b.out
           obtain ⟨fy, fz, fA, fB, fC, fD, gc, gd, ge, gf, gg, gh⟩ := cells6 g.out
           have aZ : 0 ≤ (a : Int) := od_
           have a0 : a < (c.length : Int) := od_
           obtain ⟨ap, ey, ej, ek, el, em, en, eo⟩ := at_T35 (Kd.V_reads' HO_826002.out).2.2 a aZ a0
           cases ey
           replace aZ := eq_true aZ
           replace a0 := eq_true a0
           go_upto_region 13 with (first | ((with_reducible refine gate_dst (N := 10) rfl ?_); (try (refine gate_guard (by rfl) ?_; dsimp only)); refine box_event ?hg (N := 10) ?hd (cs := #[.bool false, .bool false, .bool false, .int .i64 0, .bool false, .int .u8 0]) (t := 35) ?hr ?_; (case hd => rfl); (case hg => rfl); (case hr => first | (go_simp; done) | (go_simp; rfl)); intro l hg aX hbox hb; have i := Z (ve HO_826002.out hg hb); have j := Z (ve HO_900007001.out hg hb); have m := Z (kb b.out hb); have n := Z (kb g.out hb); have u := Z (below_step bl_ hb); have G := Z (hbox); have am := Z ((le_new hg (below_size bl_) : w.heap.size ≤ l)); have an := Z ((le_new hg (below_size bl_) : w.heap.size ≤ l)); have ao := Z (nl b.out hg); have aQ := Z (ng b.out hg); have av := Z (nl g.out hg); have aw := Z (ng g.out hg); clear HO_826002 HO_900007001 b g HB; have HO_826002 := i; have HO_900007001 := j; have b := m; have g := n; have HB := u; have q := G; have a4 := am; have cp := an; have K := ao; have ae := aQ; have I := av; have ab := aw; clear i j m n u G am an ao aQ av aw; clear hb hbox hg; have e4 := ae.out; have fa := K.out; have e5 := ab.out; have fc := I.out; obtain ⟨cK, cL, cM, cN, cO, cP, ds, dt, du, dv, dw, dx⟩ := cells6 q.out) | ((with_reducible refine gate_store (t := 35) (p := 10) rfl ?_); (try (rw [drewN_self aX]; generalize hq_ : World.drewN aX _ = aX; have i := Z (Kd.V_at hq_ HO_826002.out); have j := Z (Kd.V_at hq_ HO_900007001.out); have m := Z (blk_at hq_ b.out); have n := Z (blk_at hq_ g.out); have u := Z (blk_at hq_ q.out); have G := Z (below_at hq_ HB.out); clear hq_ HO_826002 HO_900007001 b g q HB; have HO_826002 := i; have HO_900007001 := j; have b := m; have g := n; have q := u; have HB := G; clear i j m n u G)); refine store_event (t := 35) (p := 10) (v := ?vo_w50) (w1 := ((((((aX.setCell ⟨l, 0, none⟩ (.bool ((rd_T35 c a).f0))).setCell ⟨l, 1, none⟩ (.bool ((rd_T35 c a).f1.f0))).setCell ⟨l, 2, none⟩ (.bool ((rd_T35 c a).f1.f1))).setCell ⟨l, 3, none⟩ (.int .i64 ((rd_T35 c a).f1.f2))).setCell ⟨l, 4, none⟩ (.bool ((rd_T35 c a).f1.f3))).setCell ⟨l, 5, none⟩ (.int .u8 ((rd_T35 c a).f2)))) ?hg ?ho ?hn ?hr ?_; (case ho => rfl); (case hg => rfl); (case hn => rfl); (case hr => first | (go_simp; done) | (go_simp; rfl)); intro aF hw; have i : Aside0 (Kd.V k35 35 aF w.heap.size (fun k_ => k_ ≠ E ∧ k_ ≠ B ∧ k_ ≠ l) (.slice (some ap) c.length ag) c) := ⟨(by rw [hw]; exact (by (with_reducible repeat apply pV); exact V_off HO_826002.out (fun k_ hk => hk.2) off2_ (fun _ hk => ⟨hk.1.1, ⟨hk.1.2, hk.2⟩⟩)))⟩; have j : Aside0 (Kd.V k164 164 aF w.heap.size (fun k_ => k_ ≠ E ∧ k_ ≠ B ∧ k_ ≠ l) aP af) := ⟨(by rw [hw]; exact (by (with_reducible repeat apply pV); exact V_off HO_900007001.out (fun k_ hk => hk.2) off2_ (fun _ hk => ⟨hk.1.1, ⟨hk.1.2, hk.2⟩⟩)))⟩; have m : Aside0 (aF.heap[E]? = some (.cells #[.int .i64 x, .int .i64 y, .slice au d.length aq, .int .i64 s, .bool z, .bool A] 24 (0, 0))) := ⟨(by rw [hw]; exact (by (with_reducible repeat apply pK); exact blk_off b.out K.out off2_))⟩; have n : Aside0 (aF.heap[B]? = some (.cells #[.int .i64 T, .int .i64 U, .slice (some ap) c.length ag, .int .i64 W, .bool X, .bool Y] 24 (0, 0))) := ⟨(by rw [hw]; exact (by (with_reducible repeat apply pK); exact blk_off g.out I.out off2_))⟩; have u : Aside0 (aF.heap[l]? = some (.cells #[.bool ((rd_T35 c a).f0), .bool ((rd_T35 c a).f1.f0), .bool ((rd_T35 c a).f1.f1), .int .i64 ((rd_T35 c a).f1.f2), .bool ((rd_T35 c a).f1.f3), .int .u8 ((rd_T35 c a).f2)] 35 (0, 0))) := ⟨by rw [hw]; exact (put6 q.out)⟩; have G : Aside0 (Below w.heap.size w aF) := ⟨by rw [hw]; exact bl_⟩; clear hw HO_826002 HO_900007001 b g q HB; have HO_826002 := i; have HO_900007001 := j; have b := m; have g := n; have q := u; have HB := G; clear i j m n u G; obtain ⟨cQ, cR, cS, cT, cU, cV, dy, dz, dA, dB, dC, dD⟩ := cells6 q.out; obtain ⟨cW, cX, cY, cZ, c0, c7, dE, dF, dG, dH, dI, dJ⟩ := cells6 b.out; have ah : 0 ≤ (a : Int) := od_; have ai : a < (d.length : Int) := od_; obtain ⟨aH, aU, L, M, O, P, Q, R⟩ := at_T35 aa.out a ah ai; cases aU; replace L := (HB.out.cell (bk_ w _ L)).trans L; replace M := (HB.out.cell (bk_ w _ M)).trans M; replace O := (HB.out.cell (bk_ w _ O)).trans O; replace P := (HB.out.cell (bk_ w _ P)).trans P; replace Q := (HB.out.cell (bk_ w _ Q)).trans Q; replace R := (HB.out.cell (bk_ w _ R)).trans R; replace ah := eq_true ah; replace ai := eq_true ai))
           repeat (go_quiet (first | ((with_reducible refine gate_dst (N := 10) rfl ?_); (try (refine gate_guard (by rfl) ?_; dsimp only)); refine box_event ?hg (N := 10) ?hd (cs := #[.bool false, .bool false, .bool false, .int .i64 0, .bool false, .int .u8 0]) (t := 35) ?hr ?_; (case hd => rfl); (case hg => rfl); (case hr => first | (go_simp; done) | (go_simp; rfl)); intro l hg aX hbox hb; have i := Z (ve HO_826002.out hg hb); have j := Z (ve HO_900007001.out hg hb); have m := Z (kb b.out hb); have n := Z (kb g.out hb); have u := Z (below_step bl_ hb); have G := Z (hbox); have am := Z ((le_new hg (below_size bl_) : w.heap.size ≤ l)); have an := Z ((le_new hg (below_size bl_) : w.heap.size ≤ l)); have ao := Z (nl b.out hg); have aQ := Z (ng b.out hg); have av := Z (nl g.out hg); have aw := Z (ng g.out hg); clear HO_826002 HO_900007001 b g HB; have HO_826002 := i; have HO_900007001 := j; have b := m; have g := n; have HB := u; have q := G; have a4 := am; have cp := an; have K := ao; have ae := aQ; have I := av; have ab := aw; clear i j m n u G am an ao aQ av aw; clear hb hbox hg; have e4 := ae.out; have fa := K.out; have e5 := ab.out; have fc := I.out; obtain ⟨cK, cL, cM, cN, cO, cP, ds, dt, du, dv, dw, dx⟩ := cells6 q.out) | ((with_reducible refine gate_store (t := 35) (p := 10) rfl ?_); (try (rw [drewN_self aX]; generalize hq_ : World.drewN aX _ = aX; have i := Z (Kd.V_at hq_ HO_826002.out); have j := Z (Kd.V_at hq_ HO_900007001.out); have m := Z (blk_at hq_ b.out); have n := Z (blk_at hq_ g.out); have u := Z (blk_at hq_ q.out); have G := Z (below_at hq_ HB.out); clear hq_ HO_826002 HO_900007001 b g q HB; have HO_826002 := i; have HO_900007001 := j; have b := m; have g := n; have q := u; have HB := G; clear i j m n u G)); refine store_event (t := 35) (p := 10) (v := ?vo_w50) (w1 := ((((((aX.setCell ⟨l, 0, none⟩ (.bool ((rd_T35 c a).f0))).setCell ⟨l, 1, none⟩ (.bool ((rd_T35 c a).f1.f0))).setCell ⟨l, 2, none⟩ (.bool ((rd_T35 c a).f1.f1))).setCell ⟨l, 3, none⟩ (.int .i64 ((rd_T35 c a).f1.f2))).setCell ⟨l, 4, none⟩ (.bool ((rd_T35 c a).f1.f3))).setCell ⟨l, 5, none⟩ (.int .u8 ((rd_T35 c a).f2)))) ?hg ?ho ?hn ?hr ?_; (case ho => rfl); (case hg => rfl); (case hn => rfl); (case hr => first | (go_simp; done) | (go_simp; rfl)); intro aF hw; have i : Aside0 (Kd.V k35 35 aF w.heap.size (fun k_ => k_ ≠ E ∧ k_ ≠ B ∧ k_ ≠ l) (.slice (some ap) c.length ag) c) := ⟨(by rw [hw]; exact (by (with_reducible repeat apply pV); exact V_off HO_826002.out (fun k_ hk => hk.2) off2_ (fun _ hk => ⟨hk.1.1, ⟨hk.1.2, hk.2⟩⟩)))⟩; have j : Aside0 (Kd.V k164 164 aF w.heap.size (fun k_ => k_ ≠ E ∧ k_ ≠ B ∧ k_ ≠ l) aP af) := ⟨(by rw [hw]; exact (by (with_reducible repeat apply pV); exact V_off HO_900007001.out (fun k_ hk => hk.2) off2_ (fun _ hk => ⟨hk.1.1, ⟨hk.1.2, hk.2⟩⟩)))⟩; have m : Aside0 (aF.heap[E]? = some (.cells #[.int .i64 x, .int .i64 y, .slice au d.length aq, .int .i64 s, .bool z, .bool A] 24 (0, 0))) := ⟨(by rw [hw]; exact (by (with_reducible repeat apply pK); exact blk_off b.out K.out off2_))⟩; have n : Aside0 (aF.heap[B]? = some (.cells #[.int .i64 T, .int .i64 U, .slice (some ap) c.length ag, .int .i64 W, .bool X, .bool Y] 24 (0, 0))) := ⟨(by rw [hw]; exact (by (with_reducible repeat apply pK); exact blk_off g.out I.out off2_))⟩; have u : Aside0 (aF.heap[l]? = some (.cells #[.bool ((rd_T35 c a).f0), .bool ((rd_T35 c a).f1.f0), .bool ((rd_T35 c a).f1.f1), .int .i64 ((rd_T35 c a).f1.f2), .bool ((rd_T35 c a).f1.f3), .int .u8 ((rd_T35 c a).f2)] 35 (0, 0))) := ⟨by rw [hw]; exact (put6 q.out)⟩; have G : Aside0 (Below w.heap.size w aF) := ⟨by rw [hw]; exact bl_⟩; clear hw HO_826002 HO_900007001 b g q HB; have HO_826002 := i; have HO_900007001 := j; have b := m; have g := n; have q := u; have HB := G; clear i j m n u G; obtain ⟨cQ, cR, cS, cT, cU, cV, dy, dz, dA, dB, dC, dD⟩ := cells6 q.out; obtain ⟨cW, cX, cY, cZ, c0, c7, dE, dF, dG, dH, dI, dJ⟩ := cells6 b.out; have ah : 0 ≤ (a : Int) := od_; have ai : a < (d.length : Int) := od_; obtain ⟨aH, aU, L, M, O, P, Q, R⟩ := at_T35 aa.out a ah ai; cases aU; replace L := (HB.out.cell (bk_ w _ L)).trans L; replace M := (HB.out.cell (bk_ w _ M)).trans M; replace O := (HB.out.cell (bk_ w _ O)).trans O; replace P := (HB.out.cell (bk_ w _ P)).trans P; replace Q := (HB.out.cell (bk_ w _ Q)).trans Q; replace R := (HB.out.cell (bk_ w _ R)).trans R; replace ah := eq_true ah; replace ai := eq_true ai)); go_upto_region 13 with (first | ((with_reducible refine gate_dst (N := 10) rfl ?_); (try (refine gate_guard (by rfl) ?_; dsimp only)); refine box_event ?hg (N := 10) ?hd (cs := #[.bool false, .bool false, .bool false, .int .i64 0, .bool false, .int .u8 0]) (t := 35) ?hr ?_; (case hd => rfl); (case hg => rfl); (case hr => first | (go_simp; done) | (go_simp; rfl)); intro l hg aX hbox hb; have i := Z (ve HO_826002.out hg hb); have j := Z (ve HO_900007001.out hg hb); have m := Z (kb b.out hb); have n := Z (kb g.out hb); have u := Z (below_step bl_ hb); have G := Z (hbox); have am := Z ((le_new hg (below_size bl_) : w.heap.size ≤ l)); have an := Z ((le_new hg (below_size bl_) : w.heap.size ≤ l)); have ao := Z (nl b.out hg); have aQ := Z (ng b.out hg); have av := Z (nl g.out hg); have aw := Z (ng g.out hg); clear HO_826002 HO_900007001 b g HB; have HO_826002 := i; have HO_900007001 := j; have b := m; have g := n; have HB := u; have q := G; have a4 := am; have cp := an; have K := ao; have ae := aQ; have I := av; have ab := aw; clear i j m n u G am an ao aQ av aw; clear hb hbox hg; have e4 := ae.out; have fa := K.out; have e5 := ab.out; have fc := I.out; obtain ⟨cK, cL, cM, cN, cO, cP, ds, dt, du, dv, dw, dx⟩ := cells6 q.out) | ((with_reducible refine gate_store (t := 35) (p := 10) rfl ?_); (try (rw [drewN_self aX]; generalize hq_ : World.drewN aX _ = aX; have i := Z (Kd.V_at hq_ HO_826002.out); have j := Z (Kd.V_at hq_ HO_900007001.out); have m := Z (blk_at hq_ b.out); have n := Z (blk_at hq_ g.out); have u := Z (blk_at hq_ q.out); have G := Z (below_at hq_ HB.out); clear hq_ HO_826002 HO_900007001 b g q HB; have HO_826002 := i; have HO_900007001 := j; have b := m; have g := n; have q := u; have HB := G; clear i j m n u G)); refine store_event (t := 35) (p := 10) (v := ?vo_w50) (w1 := ((((((aX.setCell ⟨l, 0, none⟩ (.bool ((rd_T35 c a).f0))).setCell ⟨l, 1, none⟩ (.bool ((rd_T35 c a).f1.f0))).setCell ⟨l, 2, none⟩ (.bool ((rd_T35 c a).f1.f1))).setCell ⟨l, 3, none⟩ (.int .i64 ((rd_T35 c a).f1.f2))).setCell ⟨l, 4, none⟩ (.bool ((rd_T35 c a).f1.f3))).setCell ⟨l, 5, none⟩ (.int .u8 ((rd_T35 c a).f2)))) ?hg ?ho ?hn ?hr ?_; (case ho => rfl); (case hg => rfl); (case hn => rfl); (case hr => first | (go_simp; done) | (go_simp; rfl)); intro aF hw; have i : Aside0 (Kd.V k35 35 aF w.heap.size (fun k_ => k_ ≠ E ∧ k_ ≠ B ∧ k_ ≠ l) (.slice (some ap) c.length ag) c) := ⟨(by rw [hw]; exact (by (with_reducible repeat apply pV); exact V_off HO_826002.out (fun k_ hk => hk.2) off2_ (fun _ hk => ⟨hk.1.1, ⟨hk.1.2, hk.2⟩⟩)))⟩; have j : Aside0 (Kd.V k164 164 aF w.heap.size (fun k_ => k_ ≠ E ∧ k_ ≠ B ∧ k_ ≠ l) aP af) := ⟨(by rw [hw]; exact (by (with_reducible repeat apply pV); exact V_off HO_900007001.out (fun k_ hk => hk.2) off2_ (fun _ hk => ⟨hk.1.1, ⟨hk.1.2, hk.2⟩⟩)))⟩; have m : Aside0 (aF.heap[E]? = some (.cells #[.int .i64 x, .int .i64 y, .slice au d.length aq, .int .i64 s, .bool z, .bool A] 24 (0, 0))) := ⟨(by rw [hw]; exact (by (with_reducible repeat apply pK); exact blk_off b.out K.out off2_))⟩; have n : Aside0 (aF.heap[B]? = some (.cells #[.int .i64 T, .int .i64 U, .slice (some ap) c.length ag, .int .i64 W, .bool X, .bool Y] 24 (0, 0))) := ⟨(by rw [hw]; exact (by (with_reducible repeat apply pK); exact blk_off g.out I.out off2_))⟩; have u : Aside0 (aF.heap[l]? = some (.cells #[.bool ((rd_T35 c a).f0), .bool ((rd_T35 c a).f1.f0), .bool ((rd_T35 c a).f1.f1), .int .i64 ((rd_T35 c a).f1.f2), .bool ((rd_T35 c a).f1.f3), .int .u8 ((rd_T35 c a).f2)] 35 (0, 0))) := ⟨by rw [hw]; exact (put6 q.out)⟩; have G : Aside0 (Below w.heap.size w aF) := ⟨by rw [hw]; exact bl_⟩; clear hw HO_826002 HO_900007001 b g q HB; have HO_826002 := i; have HO_900007001 := j; have b := m; have g := n; have q := u; have HB := G; clear i j m n u G; obtain ⟨cQ, cR, cS, cT, cU, cV, dy, dz, dA, dB, dC, dD⟩ := cells6 q.out; obtain ⟨cW, cX, cY, cZ, c0, c7, dE, dF, dG, dH, dI, dJ⟩ := cells6 b.out; have ah : 0 ≤ (a : Int) := od_; have ai : a < (d.length : Int) := od_; obtain ⟨aH, aU, L, M, O, P, Q, R⟩ := at_T35 aa.out a ah ai; cases aU; replace L := (HB.out.cell (bk_ w _ L)).trans L; replace M := (HB.out.cell (bk_ w _ M)).trans M; replace O := (HB.out.cell (bk_ w _ O)).trans O; replace P := (HB.out.cell (bk_ w _ P)).trans P; replace Q := (HB.out.cell (bk_ w _ Q)).trans Q; replace R := (HB.out.cell (bk_ w _ R)).trans R; replace ah := eq_true ah; replace ai := eq_true ai)))
           (try simp only [Act.put, sA, sB, sC])
           go_cut [76] (fun iY wc => ∃ (kq : Nat) (cq : Bool), iY = .bool cq ∧ Aside0 (shutterlaw16_WipeGuards.j1 kq (wrap64 (12 + (wrap64 (Int.tmod a1 3)))) J a cq x y d s z A T U c W X Y ((rd_T35 c a).f0) ((rd_T35 c a).f1.f0) ((rd_T35 c a).f1.f1) ((rd_T35 c a).f1.f2) ((rd_T35 c a).f1.f3) ((rd_T35 c a).f2) ar af = some r) ∧ Aside0 (kq ≤ k1) ∧ Aside0 (Kd.V k35 35 wc w.heap.size (fun k_ => k_ ≠ E ∧ k_ ≠ B ∧ k_ ≠ l) (.slice (some ap) c.length ag) c) ∧ Aside0 (Kd.V k164 164 wc w.heap.size (fun k_ => k_ ≠ E ∧ k_ ≠ B ∧ k_ ≠ l) aP af) ∧ Aside0 (wc.heap[E]? = some (.cells #[.int .i64 x, .int .i64 y, (.slice (some aH) d.length aq), .int .i64 s, .bool z, .bool A] 24 (0, 0))) ∧ Aside0 (wc.heap[B]? = some (.cells #[.int .i64 T, .int .i64 U, (.slice (some ap) c.length ag), .int .i64 W, .bool X, .bool Y] 24 (0, 0))) ∧ Aside0 (wc.heap[l]? = some (.cells #[.bool ((rd_T35 c a).f0), .bool ((rd_T35 c a).f1.f0), .bool ((rd_T35 c a).f1.f1), .int .i64 ((rd_T35 c a).f1.f2), .bool ((rd_T35 c a).f1.f3), .int .u8 ((rd_T35 c a).f2)] 35 (0, 0))) ∧ Aside0 (Below w.heap.size w wc))
           case first =>
            have H := ew.out
            clear ew
            rcases ar with _ | gv
            ·have H1 : (if (wrap64 (12 + (wrap64 (Int.tmod a1 3)))) = 14 then (shutterlaw16_WipeGuards.j1 k1 (wrap64 (12 + (wrap64 (Int.tmod a1 3)))) J a false x y d s z A T U c W X Y ((rd_T35 c a).f0) ((rd_T35 c a).f1.f0) ((rd_T35 c a).f1.f1) ((rd_T35 c a).f1.f2) ((rd_T35 c a).f1.f3) ((rd_T35 c a).f2) none af) else ((shutterref11_Begin.f k1 x y d s z A a).bind fun cn => (shutterlaw16_WipeGuards.j1 k1 (wrap64 (12 + (wrap64 (Int.tmod a1 3)))) J a (cn != J) x y d s z A T U c W X Y ((rd_T35 c a).f0) ((rd_T35 c a).f1.f0) ((rd_T35 c a).f1.f1) ((rd_T35 c a).f1.f2) ((rd_T35 c a).f1.f3) ((rd_T35 c a).f2) none af))) = some r := by rw [if_pos (show (none : Option Er).isNone = true by rfl)] at H; exact H
             clear H
             have H := H1
             clear H1
             try simp only [errW_none, errW_some]
             by_cases dN : (wrap64 (12 + (wrap64 (Int.tmod a1 3)))) = 14
             ·rw [if_pos dN] at H
              have a5 : ((wrap64 (12 + (wrap64 (Int.tmod a1 3)))) == 14) = true := beq_iff_eq.mpr dN
              have eQ : ((wrap64 (12 + (wrap64 (Int.tmod a1 3)))) != 14) = false := bne_eq_false_iff_eq.mpr dN
              clear dN
              (first | rw [a5] | (simp only [i64_w, i32_w]; rw [a5]) | skip)
              have H' := Z H
              clear H
              go_wp2
              repeat (go_quiet (fail); try go_wp2)
              go_meet
              case rel => exact ⟨_, (false), (by first | rfl | (simp; done) | (simp [*]; done)), H', ⟨by have := dM.out; first | omega | exact Nat.le_refl _⟩, ⟨by (with_reducible repeat apply pV); exact HO_826002.out⟩, ⟨by (with_reducible repeat apply pV); exact HO_900007001.out⟩, ⟨by (with_reducible repeat apply pK); exact b.out⟩, ⟨by (with_reducible repeat apply pK); exact g.out⟩, ⟨by (with_reducible repeat apply pK); exact q.out⟩, ⟨bl_⟩⟩
             ·rw [if_neg dN] at H
              have a5 : ((wrap64 (12 + (wrap64 (Int.tmod a1 3)))) == 14) = false := beq_eq_false_iff_ne.mpr dN
              have eQ : ((wrap64 (12 + (wrap64 (Int.tmod a1 3)))) != 14) = true := bne_iff_ne.mpr dN
              (first | rw [a5] | (simp only [i64_w, i32_w]; rw [a5]) | skip)
              replace H := Option.bind_eq_some_iff.mp H
              obtain ⟨cn, gs, H⟩ := H
              replace H : (shutterlaw16_WipeGuards.j1 k1 (wrap64 (12 + (wrap64 (Int.tmod a1 3)))) J a (cn != J) x y d s z A T U c W X Y ((rd_T35 c a).f0) ((rd_T35 c a).f1.f0) ((rd_T35 c a).f1.f1) ((rd_T35 c a).f1.f2) ((rd_T35 c a).f1.f3) ((rd_T35 c a).f2) none af) = some r := H
              have gr := Z gs
              clear gs
              have H' := Z H
              clear H
              have ji := S.out
              have jv := ad.out
              have jj := K.out
              have jw := ae.out
              obtain ⟨fE, fF, fG, fH, fI, fJ, gi, gj, gl, gm, gn, go⟩ := cells6 b.out
              go_wp2_with (first | (go_at_call 21; (with_reducible refine (shutterref11_Begin.calls k1 x y _ _ d s z A a cn _ ?side1 ?side2 gr.out).mono ?_); (case side1 => repeat (first | exact (Kd.C_below aa.out HB.out) | (with_reducible apply pC))); (case side2 => exact aj.out); rintro e gO ⟨rfl, hb⟩; have i := Z (vb HO_826002.out hb); have j := Z (vb HO_900007001.out hb); have m := Z (kb b.out hb); have n := Z (kb g.out hb); have u := Z (kb q.out hb); have G := Z (below_step bl_ hb); clear HO_826002 HO_900007001 b g q HB; have HO_826002 := i; have HO_900007001 := j; have b := m; have g := n; have q := u; have HB := G; clear i j m n u G; (try clear hb); (try clear ak); (try clear hk); (try clear hi)))
              repeat (go_quiet (first | (go_at_call 21; (with_reducible refine (shutterref11_Begin.calls k1 x y _ _ d s z A a cn _ ?side1 ?side2 gr.out).mono ?_); (case side1 => repeat (first | exact (Kd.C_below aa.out HB.out) | (with_reducible apply pC))); (case side2 => exact aj.out); rintro e gO ⟨rfl, hb⟩; have i := Z (vb HO_826002.out hb); have j := Z (vb HO_900007001.out hb); have m := Z (kb b.out hb); have n := Z (kb g.out hb); have u := Z (kb q.out hb); have G := Z (below_step bl_ hb); clear HO_826002 HO_900007001 b g q HB; have HO_826002 := i; have HO_900007001 := j; have b := m; have g := n; have q := u; have HB := G; clear i j m n u G; (try clear hb); (try clear ak); (try clear hk); (try clear hi))); try go_wp2_with (first | (go_at_call 21; (with_reducible refine (shutterref11_Begin.calls k1 x y _ _ d s z A a cn _ ?side1 ?side2 gr.out).mono ?_); (case side1 => repeat (first | exact (Kd.C_below aa.out HB.out) | (with_reducible apply pC))); (case side2 => exact aj.out); rintro e gO ⟨rfl, hb⟩; have i := Z (vb HO_826002.out hb); have j := Z (vb HO_900007001.out hb); have m := Z (kb b.out hb); have n := Z (kb g.out hb); have u := Z (kb q.out hb); have G := Z (below_step bl_ hb); clear HO_826002 HO_900007001 b g q HB; have HO_826002 := i; have HO_900007001 := j; have b := m; have g := n; have q := u; have HB := G; clear i j m n u G; (try clear hb); (try clear ak); (try clear hk); (try clear hi))))
              go_meet
              case rel => exact ⟨_, ((cn != J)), (by first | rfl | (simp; done) | (simp [*]; done)), H', ⟨by have := dM.out; first | omega | exact Nat.le_refl _⟩, ⟨by (with_reducible repeat apply pV); exact HO_826002.out⟩, ⟨by (with_reducible repeat apply pV); exact HO_900007001.out⟩, ⟨by (with_reducible repeat apply pK); exact b.out⟩, ⟨by (with_reducible repeat apply pK); exact g.out⟩, ⟨by (with_reducible repeat apply pK); exact q.out⟩, ⟨bl_⟩⟩
            ·have H1 : (none) = some r := by rw [if_neg (show ¬ (some gv).isNone = true by simp)] at H; exact H
             clear H
             have H := H1
             clear H1
             try simp only [errW_none, errW_some]
             exact absurd H (by simp)
           case rest =>
            clear ew
            try clear c1
            try clear c2
            try clear p2
            try clear c3
            try clear c4
            try clear c5
            try clear c6
            try clear p6
            try clear p8
            try clear q8
            try clear jT
            try clear c9
            try clear c10
            try clear eJ
            try clear eK
            try clear eL
            try clear iX
            try clear dQ
            try clear eM
            try clear et
            try clear gz
            try clear eu
            try clear gA
            try clear aY
            try clear eN
            try clear eO
            try clear eP
            try clear jL
            try clear jM
            try clear jN
            try clear jO
            try clear jP
            try clear jQ
            try clear dN
            try clear a5
            try clear eQ
            try clear jR
            try clear jS
            try clear a6
            try clear a7
            try clear a8
            try clear a9
            try clear ba
            try clear bb
            try clear bc
            try clear bd
            try clear be
            try clear bf
            try clear bg
            try clear bh
            try clear bi
            try clear bj
            try clear bk
            try clear bl
            try clear bm
            try clear bn
            try clear bo
            try clear bp
            try clear bq
            try clear br
            try clear bs
            try clear bt
            try clear bu
            try clear bv
            try clear bw
            try clear bx
            try clear bz
            try clear bA
            try clear bB
            try clear bC
            try clear bD
            try clear bE
            try clear bF
            try clear bG
            try clear fg
            try clear fh
            try clear fi
            try clear fj
            try clear fk
            try clear fl
            try clear fm
            try clear fn
            try clear fo
            try clear fp
            try clear fq
            try clear fr
            try clear cr
            try clear ct
            try clear cu
            try clear cv
            try clear cw
            try clear cx
            try clear cy
            try clear cz
            try clear cA
            try clear cB
            try clear cC
            try clear cD
            try clear cE
            try clear cF
            try clear cG
            try clear cH
            try clear cI
            try clear cJ
            try clear fs
            try clear ft
            try clear fu
            try clear fv
            try clear fw
            try clear fx
            try clear fy
            try clear fz
            try clear fA
            try clear fB
            try clear fC
            try clear fD
            try clear cK
            try clear cL
            try clear cM
            try clear cN
            try clear cO
            try clear cP
            try clear cQ
            try clear cR
            try clear cS
            try clear cT
            try clear cU
            try clear cV
            try clear cW
            try clear cX
            try clear cY
            try clear cZ
            try clear c0
            try clear c7
            try clear fE
            try clear fF
            try clear fG
            try clear fH
            try clear fI
            try clear fJ
            try clear bH
            try clear bI
            try clear bJ
            try clear bK
            try clear bL
            try clear bM
            try clear bN
            try clear bO
            try clear bP
            try clear bQ
            try clear bR
            try clear bS
            try clear bT
            try clear bU
            try clear bV
            try clear bW
            try clear bX
            try clear bY
            try clear bZ
            try clear b0
            try clear b1
            try clear b2
            try clear b3
            try clear b4
            try clear b5
            try clear b6
            try clear b7
            try clear b8
            try clear b9
            try clear ca
            try clear cb
            try clear cc
            try clear cd
            try clear ce
            try clear cf
            try clear cg
            try clear fK
            try clear fL
            try clear fM
            try clear fN
            try clear fO
            try clear fP
            try clear fQ
            try clear fR
            try clear fS
            try clear fT
            try clear fU
            try clear fV
            try clear c8
            try clear da
            try clear db
            try clear dc
            try clear dd
            try clear de
            try clear df
            try clear dg
            try clear dh
            try clear di
            try clear dj
            try clear dk
            try clear dl
            try clear dm
            try clear dn
            try clear dp
            try clear dq
            try clear dr
            try clear fW
            try clear fX
            try clear fY
            try clear fZ
            try clear ga
            try clear gb
            try clear gc
            try clear gd
            try clear ge
            try clear gf
            try clear gg
            try clear gh
            try clear ds
            try clear dt
            try clear du
            try clear dv
            try clear dw
            try clear dx
            try clear dy
            try clear dz
            try clear dA
            try clear dB
            try clear dC
            try clear dD
            try clear dE
            try clear dF
            try clear dG
            try clear dH
            try clear dI
            try clear dJ
            try clear gi
            try clear gj
            try clear gl
            try clear gm
            try clear gn
            try clear go
            try clear ej
            try clear ek
            try clear el
            try clear em
            try clear en
            try clear eo
            try clear L
            try clear M
            try clear O
            try clear P
            try clear Q
            try clear R
            try clear p2
            try clear p6
            try clear aZ
            try clear ah
            try clear a0
            try clear ai
            try clear gv
            obtain ⟨kq, cq, rfl, HA, ep, HO_826002, HO_900007001, b, g, q, HB⟩ := hcut
            cases kq with
            | zero => exact absurd HA.out (by simp [shutterlaw16_WipeGuards.j1])
            | succ aB =>
             have H := HA.out
             clear HA
             simp only [shutterlaw16_WipeGuards.j1] at H
             by_cases eR : cq = true
             ·subst eR
              have H1 : (none) = some r := by rw [if_pos rfl] at H; exact H
              clear H
              have H := H1
              clear H1
              exact absurd H (by simp)
             ·replace eR := Bool.eq_false_iff.mpr eR
              subst eR
              have H1 : (if 0 ≤ a then (if a < (d.length : Int) then (if (rd_T35 d a).f0 = true then (if (!(((rd_T35 c a).f0) == ((rd_T35 d a).f0)) || ((!(((rd_T35 c a).f1.f0) == ((rd_T35 d a).f1.f0)) || (!(((rd_T35 c a).f1.f1) == ((rd_T35 d a).f1.f1)) || (!(((rd_T35 c a).f1.f2) == ((rd_T35 d a).f1.f2))))) || (!(((rd_T35 c a).f2) == ((rd_T35 d a).f2))))) = true then (none) else (shutterlaw16_WipeGuards.l0 aB (wrap64 (12 + (wrap64 (Int.tmod a1 3)))) J (wrap64 (a + 1)) x y d s z A T U c W X Y ar af)) else ((shutterref11_Open.f aB x y d s z A a).bind fun a3 => (if a3 = true then (if ((rd_T35 c a).f0) = true then (none) else (shutterlaw16_WipeGuards.l0 aB (wrap64 (12 + (wrap64 (Int.tmod a1 3)))) J (wrap64 (a + 1)) x y d s z A T U c W X Y ar af)) else (none)))) else (none)) else (none)) = some r := by rw [if_neg (show ¬ (false = true) by decide)] at H; exact H
              clear H
              have H := H1
              clear H1
              by_cases eS : 0 ≤ a
              ·rw [if_pos eS] at H
               have jb : decide (0 ≤ a) = true := decide_eq_true eS
               clear eS
               by_cases eT : a < (d.length : Int)
               ·rw [if_pos eT] at H
                have jc : decide (a < (d.length : Int)) = true := decide_eq_true eT
                clear eT
                obtain ⟨ex, er⟩ : ∃ b_ : Bool, b_ = ((rd_T35 d a).f0) := ⟨_, rfl⟩
                replace H : (if ex = true then (if (!(((rd_T35 c a).f0) == (ex)) || ((!(((rd_T35 c a).f1.f0) == ((rd_T35 d a).f1.f0)) || (!(((rd_T35 c a).f1.f1) == ((rd_T35 d a).f1.f1)) || (!(((rd_T35 c a).f1.f2) == ((rd_T35 d a).f1.f2))))) || (!(((rd_T35 c a).f2) == ((rd_T35 d a).f2))))) = true then (none) else (shutterlaw16_WipeGuards.l0 aB (wrap64 (12 + (wrap64 (Int.tmod a1 3)))) J (wrap64 (a + 1)) x y d s z A T U c W X Y ar af)) else ((shutterref11_Open.f aB x y d s z A a).bind fun a3 => (if a3 = true then (if ((rd_T35 c a).f0) = true then (none) else (shutterlaw16_WipeGuards.l0 aB (wrap64 (12 + (wrap64 (Int.tmod a1 3)))) J (wrap64 (a + 1)) x y d s z A T U c W X Y ar af)) else (none)))) = some r := by rw [← er] at H; exact H
                have al := Z er
                clear er
                by_cases eU : ex = true
                ·subst eU
                 have H1 : (if (!(((rd_T35 c a).f0) == (true)) || ((!(((rd_T35 c a).f1.f0) == ((rd_T35 d a).f1.f0)) || (!(((rd_T35 c a).f1.f1) == ((rd_T35 d a).f1.f1)) || (!(((rd_T35 c a).f1.f2) == ((rd_T35 d a).f1.f2))))) || (!(((rd_T35 c a).f2) == ((rd_T35 d a).f2))))) = true then (none) else (shutterlaw16_WipeGuards.l0 aB (wrap64 (12 + (wrap64 (Int.tmod a1 3)))) J (wrap64 (a + 1)) x y d s z A T U c W X Y ar af)) = some r := by rw [if_pos rfl] at H; exact H
                 clear H
                 have H := H1
                 clear H1
                 by_cases eV : (!(((rd_T35 c a).f0) == (true)) || ((!(((rd_T35 c a).f1.f0) == ((rd_T35 d a).f1.f0)) || (!(((rd_T35 c a).f1.f1) == ((rd_T35 d a).f1.f1)) || (!(((rd_T35 c a).f1.f2) == ((rd_T35 d a).f1.f2))))) || (!(((rd_T35 c a).f2) == ((rd_T35 d a).f2))))) = true
                 ·rw [if_pos eV] at H
                  exact absurd H (by simp)
                 ·rw [if_neg eV] at H
                  have gB : (!(((rd_T35 c a).f0) == (true)) || ((!(((rd_T35 c a).f1.f0) == ((rd_T35 d a).f1.f0)) || (!(((rd_T35 c a).f1.f1) == ((rd_T35 d a).f1.f1)) || (!(((rd_T35 c a).f1.f2) == ((rd_T35 d a).f1.f2))))) || (!(((rd_T35 c a).f2) == ((rd_T35 d a).f2))))) = false := by simpa using eV
                  clear eV
                  have H' := Z H
                  clear H
                  have jk := S.out
                  have jx := ad.out
                  have jl := K.out
                  have jy := ae.out
                  obtain ⟨g0, g1, g2, g3, g4, g5, hW, hX, hY, hZ, h0, h1⟩ := cells6 b.out
                  have cl : 0 ≤ (a : Int) := od_
                  have cm : a < (d.length : Int) := od_
                  obtain ⟨eq, ez, ax, ay, az, aK, aA, aL⟩ := at_T35 aa.out a cl cm
                  (try rw [← al.out] at ax)
                  (try rw [← al.out] at ay)
                  (try rw [← al.out] at az)
                  (try rw [← al.out] at aA)
                  obtain rfl : aH = eq := (by injection ez)
                  replace ax := (HB.out.cell (bk_ w _ ax)).trans ax
                  replace ay := (HB.out.cell (bk_ w _ ay)).trans ay
                  replace az := (HB.out.cell (bk_ w _ az)).trans az
                  replace aK := (HB.out.cell (bk_ w _ aK)).trans aK
                  replace aA := (HB.out.cell (bk_ w _ aA)).trans aA
                  replace aL := (HB.out.cell (bk_ w _ aL)).trans aL
                  replace cl := eq_true cl
                  replace cm := eq_true cm
                  have eB : 0 ≤ (a : Int) := od_
                  have eE : a < (d.length : Int) := od_
                  obtain ⟨gx, gX, ch, ci, cj, dK, ck, dL⟩ := at_T35 aa.out a eB eE
                  (try rw [← al.out] at ch)
                  (try rw [← al.out] at ci)
                  (try rw [← al.out] at cj)
                  (try rw [← al.out] at ck)
                  obtain rfl : aH = gx := (by injection gX)
                  replace ch := (HB.out.cell (bk_ w _ ch)).trans ch
                  replace ci := (HB.out.cell (bk_ w _ ci)).trans ci
                  replace cj := (HB.out.cell (bk_ w _ cj)).trans cj
                  replace dK := (HB.out.cell (bk_ w _ dK)).trans dK
                  replace ck := (HB.out.cell (bk_ w _ ck)).trans ck
                  replace dL := (HB.out.cell (bk_ w _ dL)).trans dL
                  replace eB := eq_true eB
                  replace eE := eq_true eE
                  have jm := ab.out
                  have jz := I.out
                  obtain ⟨g6, g7, g8, g9, ha, hc, h2, h3, h4, h5, h6, h7⟩ := cells6 q.out
                  have eC : 0 ≤ (a : Int) := od_
                  have eF : a < (d.length : Int) := od_
                  obtain ⟨gy, gY, aD, aM, aN, aS, aO, aT⟩ := at_T35 aa.out a eC eF
                  (try rw [← al.out] at aD)
                  (try rw [← al.out] at aM)
                  (try rw [← al.out] at aN)
                  (try rw [← al.out] at aO)
                  obtain rfl : aH = gy := (by injection gY)
                  have ac : aH.block ≠ l := Nat.ne_of_lt (Nat.lt_of_lt_of_le (by have := bk_ _ _ aD; first | rwa [add_block] at this | exact this) a4.out)
                  replace aD := (HB.out.cell (bk_ w _ aD)).trans aD
                  replace aM := (HB.out.cell (bk_ w _ aM)).trans aM
                  replace aN := (HB.out.cell (bk_ w _ aN)).trans aN
                  replace aS := (HB.out.cell (bk_ w _ aS)).trans aS
                  replace aO := (HB.out.cell (bk_ w _ aO)).trans aO
                  replace aT := (HB.out.cell (bk_ w _ aT)).trans aT
                  replace aD := (cell_far (p := ⟨l, 4, none⟩) (by first | (rw [add_block]; exact ac) | (show (Addr.add _ _).block ≠ _; rw [add_block]; exact ac) | exact ac) (.bool ((rd_T35 d a).f1.f3))).trans aD
                  replace aM := (cell_far (p := ⟨l, 4, none⟩) (by first | (rw [add_block]; exact ac) | (show (Addr.add _ _).block ≠ _; rw [add_block]; exact ac) | exact ac) (.bool ((rd_T35 d a).f1.f3))).trans aM
                  replace aN := (cell_far (p := ⟨l, 4, none⟩) (by first | (rw [add_block]; exact ac) | (show (Addr.add _ _).block ≠ _; rw [add_block]; exact ac) | exact ac) (.bool ((rd_T35 d a).f1.f3))).trans aN
                  replace aS := (cell_far (p := ⟨l, 4, none⟩) (by first | (rw [add_block]; exact ac) | (show (Addr.add _ _).block ≠ _; rw [add_block]; exact ac) | exact ac) (.bool ((rd_T35 d a).f1.f3))).trans aS
                  replace aO := (cell_far (p := ⟨l, 4, none⟩) (by first | (rw [add_block]; exact ac) | (show (Addr.add _ _).block ≠ _; rw [add_block]; exact ac) | exact ac) (.bool ((rd_T35 d a).f1.f3))).trans aO
                  replace aT := (cell_far (p := ⟨l, 4, none⟩) (by first | (rw [add_block]; exact ac) | (show (Addr.add _ _).block ≠ _; rw [add_block]; exact ac) | exact ac) (.bool ((rd_T35 d a).f1.f3))).trans aT
                  (try have iR := fun (n_ : Nat) => (show (((wc.drewN n_).setCell ⟨l, 4, none⟩ (.bool ((rd_T35 d a).f1.f3)))).cell? _ = some _ from aD))
                  (try have iS := fun (n_ : Nat) => (show (((wc.drewN n_).setCell ⟨l, 4, none⟩ (.bool ((rd_T35 d a).f1.f3)))).cell? _ = some _ from aM))
                  (try have iT := fun (n_ : Nat) => (show (((wc.drewN n_).setCell ⟨l, 4, none⟩ (.bool ((rd_T35 d a).f1.f3)))).cell? _ = some _ from aN))
                  (try have iU := fun (n_ : Nat) => (show (((wc.drewN n_).setCell ⟨l, 4, none⟩ (.bool ((rd_T35 d a).f1.f3)))).cell? _ = some _ from aS))
                  (try have iV := fun (n_ : Nat) => (show (((wc.drewN n_).setCell ⟨l, 4, none⟩ (.bool ((rd_T35 d a).f1.f3)))).cell? _ = some _ from aO))
                  (try have iW := fun (n_ : Nat) => (show (((wc.drewN n_).setCell ⟨l, 4, none⟩ (.bool ((rd_T35 d a).f1.f3)))).cell? _ = some _ from aT))
                  clear ac
                  replace eC := eq_true eC
                  replace eF := eq_true eF
                  go_wp2
                  repeat (go_quiet (fail); try go_wp2)
                  any_goals (first | (exfalso; rename_i hq_; exact Bool.noConfusion ((show (!(((rd_T35 c a).f0) == (true)) || ((!(((rd_T35 c a).f1.f0) == ((rd_T35 d a).f1.f0)) || (!(((rd_T35 c a).f1.f1) == ((rd_T35 d a).f1.f1)) || (!(((rd_T35 c a).f1.f2) == ((rd_T35 d a).f1.f2))))) || (!(((rd_T35 c a).f2) == ((rd_T35 d a).f2))))) = true by simpa using hq_).symm.trans gB)) | skip)
                  go_roundg aB
                  case measure => have := dM.out; have := ep.out; omega
                  case rel => exact ⟨(wrap64 (a + 1)), (by first | rfl | (simp; done) | (simp [*]; done)), H', ⟨by have := dM.out; have := ep.out; omega⟩, ⟨by (with_reducible repeat apply pV); exact Kd.V_mono (Kd.V_far (p := ⟨l, 4, none⟩) (Kd.V_mono HO_826002.out (fun k_ hk => (⟨hk, hk.2.2⟩ : _ ∧ k_ ≠ l))) (fun _ hk => hk.2) (.bool ((rd_T35 d a).f1.f3))) (fun _ hk => ⟨hk.1.1, hk.1.2.1⟩)⟩, ⟨by (with_reducible repeat apply pV); exact Kd.V_mono (Kd.V_far (p := ⟨l, 4, none⟩) (Kd.V_mono HO_900007001.out (fun k_ hk => (⟨hk, hk.2.2⟩ : _ ∧ k_ ≠ l))) (fun _ hk => hk.2) (.bool ((rd_T35 d a).f1.f3))) (fun _ hk => ⟨hk.1.1, hk.1.2.1⟩)⟩, ⟨by (with_reducible repeat apply pK); exact blk_off b.out K.out off2_⟩, ⟨by (with_reducible repeat apply pK); exact blk_off g.out I.out off2_⟩, ⟨bl_⟩⟩
                ·replace eU := Bool.eq_false_iff.mpr eU
                 subst eU
                 have H1 : ((shutterref11_Open.f aB x y d s z A a).bind fun a3 => (if a3 = true then (if ((rd_T35 c a).f0) = true then (none) else (shutterlaw16_WipeGuards.l0 aB (wrap64 (12 + (wrap64 (Int.tmod a1 3)))) J (wrap64 (a + 1)) x y d s z A T U c W X Y ar af)) else (none))) = some r := by rw [if_neg (show ¬ (false = true) by decide)] at H; exact H
                 clear H
                 have H := H1
                 clear H1
                 replace H := Option.bind_eq_some_iff.mp H
                 obtain ⟨a3, gt, H⟩ := H
                 replace H : (if a3 = true then (if ((rd_T35 c a).f0) = true then (none) else (shutterlaw16_WipeGuards.l0 aB (wrap64 (12 + (wrap64 (Int.tmod a1 3)))) J (wrap64 (a + 1)) x y d s z A T U c W X Y ar af)) else (none)) = some r := H
                 have dT := Z gt
                 clear gt
                 by_cases eW : a3 = true
                 ·subst eW
                  have H1 : (if ((rd_T35 c a).f0) = true then (none) else (shutterlaw16_WipeGuards.l0 aB (wrap64 (12 + (wrap64 (Int.tmod a1 3)))) J (wrap64 (a + 1)) x y d s z A T U c W X Y ar af)) = some r := by rw [if_pos rfl] at H; exact H
                  clear H
                  have H := H1
                  clear H1
                  by_cases eX : ((rd_T35 c a).f0) = true
                  ·rw [if_pos eX] at H
                   exact absurd H (by simp)
                  ·rw [if_neg eX] at H
                   have jd : ((rd_T35 c a).f0) = false := by simpa using eX
                   clear eX
                   have H' := Z H
                   clear H
                   have jn := S.out
                   have jA := ad.out
                   have jo := K.out
                   have jB := ae.out
                   obtain ⟨he, hf, hh, hj, hl, hm, h8, h9, ia, ib, ic, id⟩ := cells6 b.out
                   have cl : 0 ≤ (a : Int) := od_
                   have cm : a < (d.length : Int) := od_
                   obtain ⟨eq, ez, ax, ay, az, aK, aA, aL⟩ := at_T35 aa.out a cl cm
                   (try rw [← al.out] at ax)
                   (try rw [← al.out] at ay)
                   (try rw [← al.out] at az)
                   (try rw [← al.out] at aA)
                   obtain rfl : aH = eq := (by injection ez)
                   replace ax := (HB.out.cell (bk_ w _ ax)).trans ax
                   replace ay := (HB.out.cell (bk_ w _ ay)).trans ay
                   replace az := (HB.out.cell (bk_ w _ az)).trans az
                   replace aK := (HB.out.cell (bk_ w _ aK)).trans aK
                   replace aA := (HB.out.cell (bk_ w _ aA)).trans aA
                   replace aL := (HB.out.cell (bk_ w _ aL)).trans aL
                   replace cl := eq_true cl
                   replace cm := eq_true cm
                   go_wp2_with (first | (go_at_call 22; (with_reducible refine (shutterref11_Open.calls aB x y _ _ d s z A a true _ ?side1 ?side2 dT.out).mono ?_); (case side1 => repeat (first | exact (Kd.C_below aa.out HB.out) | (with_reducible apply pC))); (case side2 => exact aj.out); rintro e gP ⟨rfl, hb⟩; have i := Z (vb HO_826002.out hb); have j := Z (vb HO_900007001.out hb); have m := Z (kb b.out hb); have n := Z (kb g.out hb); have u := Z (kb q.out hb); have G := Z (below_step bl_ hb); clear HO_826002 HO_900007001 b g q HB; have HO_826002 := i; have HO_900007001 := j; have b := m; have g := n; have q := u; have HB := G; clear i j m n u G; (try clear hb); (try clear ak); (try clear hk); (try clear hi); have e6 := ab.out; have fd := I.out; obtain ⟨dV, dW, dX, dY, dZ, d0, d7, d8, d9, ea, eb, ec⟩ := cells6 q.out))
                   repeat (go_quiet (first | (go_at_call 22; (with_reducible refine (shutterref11_Open.calls aB x y _ _ d s z A a true _ ?side1 ?side2 dT.out).mono ?_); (case side1 => repeat (first | exact (Kd.C_below aa.out HB.out) | (with_reducible apply pC))); (case side2 => exact aj.out); rintro e gP ⟨rfl, hb⟩; have i := Z (vb HO_826002.out hb); have j := Z (vb HO_900007001.out hb); have m := Z (kb b.out hb); have n := Z (kb g.out hb); have u := Z (kb q.out hb); have G := Z (below_step bl_ hb); clear HO_826002 HO_900007001 b g q HB; have HO_826002 := i; have HO_900007001 := j; have b := m; have g := n; have q := u; have HB := G; clear i j m n u G; (try clear hb); (try clear ak); (try clear hk); (try clear hi); have e6 := ab.out; have fd := I.out; obtain ⟨dV, dW, dX, dY, dZ, d0, d7, d8, d9, ea, eb, ec⟩ := cells6 q.out)); try go_wp2_with (first | (go_at_call 22; (with_reducible refine (shutterref11_Open.calls aB x y _ _ d s z A a true _ ?side1 ?side2 dT.out).mono ?_); (case side1 => repeat (first | exact (Kd.C_below aa.out HB.out) | (with_reducible apply pC))); (case side2 => exact aj.out); rintro e gP ⟨rfl, hb⟩; have i := Z (vb HO_826002.out hb); have j := Z (vb HO_900007001.out hb); have m := Z (kb b.out hb); have n := Z (kb g.out hb); have u := Z (kb q.out hb); have G := Z (below_step bl_ hb); clear HO_826002 HO_900007001 b g q HB; have HO_826002 := i; have HO_900007001 := j; have b := m; have g := n; have q := u; have HB := G; clear i j m n u G; (try clear hb); (try clear ak); (try clear hk); (try clear hi); have e6 := ab.out; have fd := I.out; obtain ⟨dV, dW, dX, dY, dZ, d0, d7, d8, d9, ea, eb, ec⟩ := cells6 q.out)))
                   go_roundg aB
                   case measure => have := dM.out; have := ep.out; omega
                   case rel => exact ⟨(wrap64 (a + 1)), (by first | rfl | (simp; done) | (simp [*]; done)), H', ⟨by have := dM.out; have := ep.out; omega⟩, ⟨by (with_reducible repeat apply pV); exact Kd.V_mono HO_826002.out (fun _ hk => ⟨hk.1, hk.2.1⟩)⟩, ⟨by (with_reducible repeat apply pV); exact Kd.V_mono HO_900007001.out (fun _ hk => ⟨hk.1, hk.2.1⟩)⟩, ⟨by (with_reducible repeat apply pK); exact b.out⟩, ⟨by (with_reducible repeat apply pK); exact g.out⟩, ⟨bl_⟩⟩
                 ·replace eW := Bool.eq_false_iff.mpr eW
                  subst eW
                  have H1 : (none) = some r := by rw [if_neg (show ¬ (false = true) by decide)] at H; exact H
                  clear H
                  have H := H1
                  clear H1
                  exact absurd H (by simp)
               ·rw [if_neg eT] at H
                exact absurd H (by simp)
              ·rw [if_neg eS] at H
               exact absurd H (by simp)
         ·rw [if_neg eu] at H
          exact absurd H (by simp)
        ·rw [if_neg et] at H
         exact absurd H (by simp)
       ·rw [if_neg dQ] at H
        have eM : decide (a < (d.length : Int)) = false := decide_eq_false dQ
        clear dQ
        rcases ar with _ | gZ
        ·have H1 : (if (wrap64 (12 + (wrap64 (Int.tmod a1 3)))) = 14 then (some true) else (if J < 0 then (some true) else (if 0 ≤ J then (if J < (c.length : Int) then (some ((rd_T35 c J).f1.f3)) else (none)) else (none)))) = some r := by rw [if_pos (show (none : Option Er).isNone = true by rfl)] at H; exact H
         clear H
         have H := H1
         clear H1
         try simp only [errW_none, errW_some]
         by_cases dR : (wrap64 (12 + (wrap64 (Int.tmod a1 3)))) = 14
         ·rw [if_pos dR] at H
          have gC : ((wrap64 (12 + (wrap64 (Int.tmod a1 3)))) == 14) = true := beq_iff_eq.mpr dR
          have gD : ((wrap64 (12 + (wrap64 (Int.tmod a1 3)))) != 14) = false := bne_eq_false_iff_eq.mpr dR
          clear dR
          obtain rfl := Option.some.inj H
          have jp := S.out
          have jC := ad.out
          obtain ⟨hp, hq, hs, ht, hu, hv, ie, ig, ih, ii, ij, ik⟩ := cells6 b.out
          go_wp2
          repeat (go_quiet (fail); try go_wp2)
          go_ret
          exact ⟨by first | rfl | (simp [errW_none, errW_some] <;> rfl) | (simp [*, errW_none, errW_some] <;> rfl), bl_⟩
         ·rw [if_neg dR] at H
          have gC : ((wrap64 (12 + (wrap64 (Int.tmod a1 3)))) == 14) = false := beq_eq_false_iff_ne.mpr dR
          have gD : ((wrap64 (12 + (wrap64 (Int.tmod a1 3)))) != 14) = true := bne_iff_ne.mpr dR
          by_cases dU : J < 0
          ·rw [if_pos dU] at H
           have gE : decide (J < 0) = true := decide_eq_true dU
           clear dU
           obtain rfl := Option.some.inj H
           have jq := S.out
           have jD := ad.out
           obtain ⟨hx, hy, hz, hA, hB, hC, il, im, io, ip, iq, ir⟩ := cells6 b.out
           go_wp2
           repeat (go_quiet (fail); try go_wp2)
           go_ret
           exact ⟨by first | rfl | (simp [errW_none, errW_some] <;> rfl) | (simp [*, errW_none, errW_some] <;> rfl), bl_⟩
          ·rw [if_neg dU] at H
           have gE : decide (J < 0) = false := decide_eq_false dU
           clear dU
           by_cases eY : 0 ≤ J
           ·rw [if_pos eY] at H
            have je : decide (0 ≤ J) = true := decide_eq_true eY
            clear eY
            by_cases eZ : J < (c.length : Int)
            ·rw [if_pos eZ] at H
             have jf : decide (J < (c.length : Int)) = true := decide_eq_true eZ
             clear eZ
             obtain rfl := Option.some.inj H
             have jr := S.out
             have jE := ad.out
             obtain ⟨hD, hE, hF, hH, hI, hJ, it, iu, iv, iw, ix, iy⟩ := cells6 b.out
             obtain ⟨hK, hL, hM, hN, hO, hP, iz, iA, iB, iC, iD, iE⟩ := cells6 g.out
             have eA : 0 ≤ (J : Int) := od_
             have eD : J < (c.length : Int) := od_
             obtain ⟨iZ, gW, iL, iM, iN, iO, iP, iQ⟩ := at_T35 (Kd.V_reads' HO_826002.out).2.2 J eA eD
             cases gW
             replace eA := eq_true eA
             replace eD := eq_true eD
             go_wp2
             repeat (go_quiet (fail); try go_wp2)
             go_ret
             exact ⟨by first | rfl | (simp [errW_none, errW_some] <;> rfl) | (simp [*, errW_none, errW_some] <;> rfl), bl_⟩
            ·rw [if_neg eZ] at H
             exact absurd H (by simp)
           ·rw [if_neg eY] at H
            exact absurd H (by simp)
        ·have H1 : (some true) = some r := by rw [if_neg (show ¬ (some gZ).isNone = true by simp)] at H; exact H
         clear H
         have H := H1
         clear H1
         try simp only [errW_none, errW_some]
         obtain rfl := Option.some.inj H
         have js := S.out
         have jF := ad.out
         obtain ⟨hQ, hR, hS, hT, hU, hV, iF, iG, iH, iI, iJ, iK⟩ := cells6 b.out
         go_wp2
         repeat (go_quiet (fail); try go_wp2)
         go_ret
         exact ⟨by first | rfl | (simp [errW_none, errW_some] <;> rfl) | (simp [*, errW_none, errW_some] <;> rfl), bl_⟩
    ·rw [if_neg c10] at H
     exact absurd H (by simp)
   ·replace c9 := Bool.eq_false_iff.mpr c9
    subst c9
    have H1 : (none) = some r := by rw [if_neg (show ¬ (false = true) by decide)] at H; exact H
    clear H
    have H := H1
    clear H1
    exact absurd H (by simp)
  ·replace c6 := Bool.eq_false_iff.mpr c6
   subst c6
   have H1 : ((shutterlaw16_awake.f k).bind fun aC => (some aC)) = some r := by rw [if_neg (show ¬ (false = true) by decide)] at H; exact H
   clear H
   have H := H1
   clear H1
   replace H := Option.bind_eq_some_iff.mp H
   obtain ⟨aC, gu, H⟩ := H
   replace H : (some aC) = some r := H
   have eG := Z gu
   clear gu
   obtain rfl := Option.some.inj H
   go_enter Tryd.func3, Tryd.ntmps3
   go_wp2_with (first | ((with_reducible refine gate_dst (N := 2) rfl ?_); (try (refine gate_guard (by rfl) ?_; dsimp only)); refine box_event ?hg (N := 2) ?hd (cs := #[.int .i64 x, .int .i64 y, .slice au d.length aq, .int .i64 s, .bool z, .bool A]) (t := 24) ?hr ?_; (case hd => rfl); (case hg => rfl); (case hr => first | (go_simp; done) | (go_simp; rfl)); intro E hg gQ hbox hb; have i := Z (below_step bl_ hb); have j := Z (hbox); have m := Z ((le_new hg (below_size bl_) : w.heap.size ≤ E)); have n := Z ((le_new hg (below_size bl_) : w.heap.size ≤ E)); clear HB; have HB := i; have b := j; have aG := m; have co := n; clear i j m n; clear hb hbox hg) | (go_at_call 17; (with_reducible refine (shutterlaw16_awake.calls k  true _ ?sideG A3.out).mono ?_); (case sideG => exact laidG_below HG.out bl_ rfl); rintro e gR ⟨rfl, hb⟩; have i := Z (kb b.out hb); have j := Z (below_step bl_ hb); clear b HB; have b := i; have HB := j; clear i j; (try clear hb); (try clear ak); (try clear hk); (try clear hi); obtain ⟨d1, d2, d3, d4, d5, d6, ed, ee, ef, eg, eh, ei⟩ := cells6 b.out) | (go_at_call 18; (with_reducible refine (shutterref10_Few.calls k x y _ _ d s z A false _ ?side1 ?side2 A5.out).mono ?_); (case side1 => repeat (first | exact (Kd.C_below aa.out HB.out) | (with_reducible apply pC))); (case side2 => exact aj.out); rintro e gS ⟨rfl, hb⟩; have i := Z (kb b.out hb); have j := Z (below_step bl_ hb); clear b HB; have b := i; have HB := j; clear i j; (try clear hb); (try clear ak); (try clear hk); (try clear hi)) | (go_at_call 17; (with_reducible refine (shutterlaw16_awake.calls k  aC _ ?sideG eG.out).mono ?_); (case sideG => exact laidG_below HG.out bl_ rfl); rintro e gT ⟨rfl, hb⟩; have i := Z (kb b.out hb); have j := Z (below_step bl_ hb); clear b HB; have b := i; have HB := j; clear i j; (try clear hb); (try clear ak); (try clear hk); (try clear hi)))
   repeat (go_quiet (first | ((with_reducible refine gate_dst (N := 2) rfl ?_); (try (refine gate_guard (by rfl) ?_; dsimp only)); refine box_event ?hg (N := 2) ?hd (cs := #[.int .i64 x, .int .i64 y, .slice au d.length aq, .int .i64 s, .bool z, .bool A]) (t := 24) ?hr ?_; (case hd => rfl); (case hg => rfl); (case hr => first | (go_simp; done) | (go_simp; rfl)); intro E hg gQ hbox hb; have i := Z (below_step bl_ hb); have j := Z (hbox); have m := Z ((le_new hg (below_size bl_) : w.heap.size ≤ E)); have n := Z ((le_new hg (below_size bl_) : w.heap.size ≤ E)); clear HB; have HB := i; have b := j; have aG := m; have co := n; clear i j m n; clear hb hbox hg) | (go_at_call 17; (with_reducible refine (shutterlaw16_awake.calls k  true _ ?sideG A3.out).mono ?_); (case sideG => exact laidG_below HG.out bl_ rfl); rintro e gR ⟨rfl, hb⟩; have i := Z (kb b.out hb); have j := Z (below_step bl_ hb); clear b HB; have b := i; have HB := j; clear i j; (try clear hb); (try clear ak); (try clear hk); (try clear hi); obtain ⟨d1, d2, d3, d4, d5, d6, ed, ee, ef, eg, eh, ei⟩ := cells6 b.out) | (go_at_call 18; (with_reducible refine (shutterref10_Few.calls k x y _ _ d s z A false _ ?side1 ?side2 A5.out).mono ?_); (case side1 => repeat (first | exact (Kd.C_below aa.out HB.out) | (with_reducible apply pC))); (case side2 => exact aj.out); rintro e gS ⟨rfl, hb⟩; have i := Z (kb b.out hb); have j := Z (below_step bl_ hb); clear b HB; have b := i; have HB := j; clear i j; (try clear hb); (try clear ak); (try clear hk); (try clear hi)) | (go_at_call 17; (with_reducible refine (shutterlaw16_awake.calls k  aC _ ?sideG eG.out).mono ?_); (case sideG => exact laidG_below HG.out bl_ rfl); rintro e gT ⟨rfl, hb⟩; have i := Z (kb b.out hb); have j := Z (below_step bl_ hb); clear b HB; have b := i; have HB := j; clear i j; (try clear hb); (try clear ak); (try clear hk); (try clear hi))); try go_wp2_with (first | ((with_reducible refine gate_dst (N := 2) rfl ?_); (try (refine gate_guard (by rfl) ?_; dsimp only)); refine box_event ?hg (N := 2) ?hd (cs := #[.int .i64 x, .int .i64 y, .slice au d.length aq, .int .i64 s, .bool z, .bool A]) (t := 24) ?hr ?_; (case hd => rfl); (case hg => rfl); (case hr => first | (go_simp; done) | (go_simp; rfl)); intro E hg gQ hbox hb; have i := Z (below_step bl_ hb); have j := Z (hbox); have m := Z ((le_new hg (below_size bl_) : w.heap.size ≤ E)); have n := Z ((le_new hg (below_size bl_) : w.heap.size ≤ E)); clear HB; have HB := i; have b := j; have aG := m; have co := n; clear i j m n; clear hb hbox hg) | (go_at_call 17; (with_reducible refine (shutterlaw16_awake.calls k  true _ ?sideG A3.out).mono ?_); (case sideG => exact laidG_below HG.out bl_ rfl); rintro e gR ⟨rfl, hb⟩; have i := Z (kb b.out hb); have j := Z (below_step bl_ hb); clear b HB; have b := i; have HB := j; clear i j; (try clear hb); (try clear ak); (try clear hk); (try clear hi); obtain ⟨d1, d2, d3, d4, d5, d6, ed, ee, ef, eg, eh, ei⟩ := cells6 b.out) | (go_at_call 18; (with_reducible refine (shutterref10_Few.calls k x y _ _ d s z A false _ ?side1 ?side2 A5.out).mono ?_); (case side1 => repeat (first | exact (Kd.C_below aa.out HB.out) | (with_reducible apply pC))); (case side2 => exact aj.out); rintro e gS ⟨rfl, hb⟩; have i := Z (kb b.out hb); have j := Z (below_step bl_ hb); clear b HB; have b := i; have HB := j; clear i j; (try clear hb); (try clear ak); (try clear hk); (try clear hi)) | (go_at_call 17; (with_reducible refine (shutterlaw16_awake.calls k  aC _ ?sideG eG.out).mono ?_); (case sideG => exact laidG_below HG.out bl_ rfl); rintro e gT ⟨rfl, hb⟩; have i := Z (kb b.out hb); have j := Z (below_step bl_ hb); clear b HB; have b := i; have HB := j; clear i j; (try clear hb); (try clear ak); (try clear hk); (try clear hi))))
   go_ret
   have e_ : aC = true := Option.some.inj (eG.out.symm.trans A3.out)
   exact ⟨by first | rfl | (simp [errW_none, errW_some] <;> rfl) | (simp [*, errW_none, errW_some] <;> rfl), bl_⟩
 ·replace c4 := Bool.eq_false_iff.mpr c4
  subst c4
  have H1 : (none) = some r := by rw [if_neg (show ¬ (false = true) by decide)] at H; exact H
  clear H
  have H := H1
  clear H1
  exact absurd H (by simp)

end Go.Proofs.YtggecanpjkpkiaaDoor.P
